/-
  LineApart: the walk.
-/
import Derived.Test.YtlbhfpcbbembgaaK5m
import Derived.Test.YtlbhfpcbbembgaaEqW
namespace Go.Proofs.Ytlbhfpcbbembgaa
set_option linter.unusedSimpArgs false
set_option linter.unusedVariables false
open Go.RowKit Go.Maps

abbrev boxA (L : LinesM) : Ob := .box 59 [.sl 3 0 (L.first.map eWord), .sl 2 0 (L.logs.map eLog), .mp 3 fun t => (L.asks t).map eAsked]
/-- The two runs behind the first n operations. -/
def runA (w : List WordV) (l : List ActV) : Nat → LinesM × LinesM
  | 0 => (newM w, newM w)
  | n + 1 => match l[n]? with
    | some a => ((doneM (runA w l n).1 a).1, apartM (runA w l n).1 (runA w l n).2 a)
    | none => runA w l n
theorem runA_succ {w : List WordV} {l : List ActV} {n : Nat} {a : ActV} (h : l[n]? = some a) : runA w l (n + 1) = ((doneM (runA w l n).1 a).1, apartM (runA w l n).1 (runA w l n).2 a) := by
  rw [runA, h]
theorem lgood_up {L : LinesM} {n : Nat} (h : LGood L n) : LGood L (n + 1) := ⟨h.lines, h.asks, fun y hy => by have := h.most y hy; omega⟩
theorem runA_good (w : List WordV) (l : List ActV) (hw : w.length ≤ 4096) : ∀ n, LGood (runA w l n).1 n ∧ LGood (runA w l n).2 n ∧ Same0 (runA w l n).1 (runA w l n).2 ∧ (runA w l n).1.first = w
  | 0 => ⟨good_new w hw, good_new w hw, ⟨rfl, rfl, fun _ => rfl⟩, rfl⟩
  | n + 1 => by
    obtain ⟨h1, h2, h3, h4⟩ := runA_good w l hw n
    unfold runA
    cases e : l[n]? with
    | none => exact ⟨lgood_up h1, lgood_up h2, h3, h4⟩
    | some a =>
      refine ⟨(done_good h1 a).1, ?_, apart_same h3 a, (done_good h1 a).2.trans h4⟩
      simp only [apartM]
      split
      · exact (done_good h2 a).1
      · exact lgood_up h2
def AInv0 (w : List WordV) (g : Nat) (l : List ActV) (g2 : Nat) (c : Int) (k : Nat) (S : St) : Prop :=
  ∃ n, n ≤ l.length ∧ k = l.length - n ∧ S = ⟨[(0, .sl 3 g (w.map eWord)), (1, .sl 6 g2 (l.map eAct)), (2, sI c), (7, .ptr 0 0 0), (9, .ptr 1 0 0), (10, sI n)], [(0, boxA (runA w l n).1), (1, boxA (runA w l n).2)], 2⟩
def AInv1 (ps qs : List WordV) (m : Nat) (S : St) : Prop :=
  ∃ k, k ≤ 8 ∧ m = 8 - k ∧ S = ⟨[(20, .sl 3 0 (ps.map eWord)), (21, .sl 3 0 (qs.map eWord)), (22, sI k)], [], 0⟩

set_option maxHeartbeats 8000000 in
theorem ok_LineApart (w : List WordV) (g : Nat) (l : List ActV) (g2 : Nat) (c : Int) (hl : ∀ a ∈ l, 0 ≤ a.kind ∧ a.kind ≤ 255) : Ok 10 [.sl 3 g (w.map eWord), .sl 6 g2 (l.map eAct), sI c] (sB true) := by
  refine ok_of_tr Try.func10 tr_LineApart rfl ?_
  by_cases hgr : 40 < w.length ∨ 80 < l.length
  · have d1 : decide (40 < w.length ∨ 80 < l.length) = true := decide_eq_true hgr
    unfold evFn sc_LineApart
    refine ev_seq_k fun K1 hn1 hr1 he1 => ?_
    refine ev_ops_k fun K2 hk2 => ?_
    simp only [shA, if_true, if_false, ite_true, ite_false, forall_const, ite_self, eq_self, reduceIte, reduceCtorEq, Nat.reduceEqDiff, Nat.reduceAdd, Nat.reduceLeDiff, Nat.reduceSub, Int.reduceToNat, Nat.reduceBEq, Nat.reduceMul, Nat.reduceLT, Int.reduceLE, Int.reduceLT, Nat.reduceMod, d1]
    refine hk2 _ ?_
    refine hn1 (some ([0, 1, 2, 27, 28, 29, 58, 59, 60, 61, 62, 63, 64, 65, 66, 95, 96, 97, 100, 101, 102, 103, 104, 107, 108, 109, 110, 111], none)) _ ?_
    refine ev_seq_k fun K3 hn3 hr3 he3 => ?_
    refine ev_seq_k fun K4 hn4 hr4 he4 => ?_
    refine ev_ops_k fun K5 hk5 => ?_
    refine evL_take 2 fun K6 hk6 => ?_
    simp only [shA, if_true, if_false, ite_true, ite_false, forall_const, ite_self, eq_self, reduceIte, reduceCtorEq, Nat.reduceEqDiff, Nat.reduceAdd, Nat.reduceLeDiff, Nat.reduceSub, Int.reduceToNat, Nat.reduceBEq, Nat.reduceMul, Nat.reduceLT, Int.reduceLE, Int.reduceLT, Nat.reduceMod, d1]
    refine hk6 _ ?_
    refine evL_take 1 fun K7 hk7 => ?_
    simp only [shA, if_true, if_false, ite_true, ite_false, forall_const, ite_self, eq_self, reduceIte, reduceCtorEq, Nat.reduceEqDiff, Nat.reduceAdd, Nat.reduceLeDiff, Nat.reduceSub, Int.reduceToNat, Nat.reduceBEq, Nat.reduceMul, Nat.reduceLT, Int.reduceLE, Int.reduceLT, Nat.reduceMod, d1]
    refine Or.inl (Or.inl ⟨_, ok_l5great g g2 w l, ?_⟩)
    refine hk7 _ ?_
    refine evL_take 4 fun K8 hk8 => ?_
    simp only [shA, if_true, if_false, ite_true, ite_false, forall_const, ite_self, eq_self, reduceIte, reduceCtorEq, Nat.reduceEqDiff, Nat.reduceAdd, Nat.reduceLeDiff, Nat.reduceSub, Int.reduceToNat, Nat.reduceBEq, Nat.reduceMul, Nat.reduceLT, Int.reduceLE, Int.reduceLT, Nat.reduceMod, d1]
    repeat (refine ⟨by first | assumption | omega | decide | (simp; done) | (simp_all; done) | (simp; omega), ?_⟩)
    refine hk8 _ ?_
    simp only [shA, if_true, if_false, ite_true, ite_false, forall_const, ite_self, eq_self, reduceIte, reduceCtorEq, Nat.reduceEqDiff, Nat.reduceAdd, Nat.reduceLeDiff, Nat.reduceSub, Int.reduceToNat, Nat.reduceBEq, Nat.reduceMul, Nat.reduceLT, Int.reduceLE, Int.reduceLT, Nat.reduceMod, d1]
    refine hk5 _ ?_
    refine hn4 (some ([0, 1, 2, 30, 58, 59, 60, 61, 62, 63, 64, 65, 66, 95, 96, 97, 100, 101, 102, 103, 104, 107, 108, 109, 110, 111], none)) _ ?_
    refine ev_cond_k rfl (fun hc0 => ?_) (fun hx => absurd hx (by simp at hx))
    clear hc0
    refine ev_seq_k fun K9 hn9 hr9 he9 => ?_
    refine ev_ops_k fun K10 hk10 => ?_
    refine evL_take 1 fun K11 hk11 => ?_
    simp only [shA, if_true, if_false, ite_true, ite_false, forall_const, ite_self, eq_self, reduceIte, reduceCtorEq, Nat.reduceEqDiff, Nat.reduceAdd, Nat.reduceLeDiff, Nat.reduceSub, Int.reduceToNat, Nat.reduceBEq, Nat.reduceMul, Nat.reduceLT, Int.reduceLE, Int.reduceLT, Nat.reduceMod, d1]
    refine Or.inl (Or.inl ⟨_, ok_l5awake, ?_⟩)
    refine hk11 _ ?_
    simp only [shA, if_true, if_false, ite_true, ite_false, forall_const, ite_self, eq_self, reduceIte, reduceCtorEq, Nat.reduceEqDiff, Nat.reduceAdd, Nat.reduceLeDiff, Nat.reduceSub, Int.reduceToNat, Nat.reduceBEq, Nat.reduceMul, Nat.reduceLT, Int.reduceLE, Int.reduceLT, Nat.reduceMod, d1]
    refine hk10 _ ?_
    refine hn9 (some ([6], none)) _ ?_
    refine hr3 _ ?_
    simp only [shA, if_true, if_false, ite_true, ite_false, forall_const, ite_self, eq_self, reduceIte, reduceCtorEq, Nat.reduceEqDiff, Nat.reduceAdd, Nat.reduceLeDiff, Nat.reduceSub, Int.reduceToNat, Nat.reduceBEq, Nat.reduceMul, Nat.reduceLT, Int.reduceLE, Int.reduceLT, Nat.reduceMod, ev, fin, rv_LineApart, d1]
  have d1 : decide (40 < w.length ∨ 80 < l.length) = false := decide_eq_false hgr
  by_cases h9 : (w.length : Int) < 9
  · skip
    unfold evFn sc_LineApart
    refine ev_seq_k fun K1 hn1 hr1 he1 => ?_
    refine ev_ops_k fun K2 hk2 => ?_
    simp only [shA, if_true, if_false, ite_true, ite_false, forall_const, ite_self, eq_self, reduceIte, reduceCtorEq, Nat.reduceEqDiff, Nat.reduceAdd, Nat.reduceLeDiff, Nat.reduceSub, Int.reduceToNat, Nat.reduceBEq, Nat.reduceMul, Nat.reduceLT, Int.reduceLE, Int.reduceLT, Nat.reduceMod, d1, h9, List.length_map]
    refine hk2 _ ?_
    refine hn1 (some ([0, 1, 2, 27, 28, 29, 58, 59, 60, 61, 62, 63, 64, 65, 66, 95, 96, 97, 100, 101, 102, 103, 104, 107, 108, 109, 110, 111], none)) _ ?_
    refine ev_seq_k fun K3 hn3 hr3 he3 => ?_
    refine ev_seq_k fun K4 hn4 hr4 he4 => ?_
    refine ev_ops_k fun K5 hk5 => ?_
    refine evL_take 2 fun K6 hk6 => ?_
    simp only [shA, if_true, if_false, ite_true, ite_false, forall_const, ite_self, eq_self, reduceIte, reduceCtorEq, Nat.reduceEqDiff, Nat.reduceAdd, Nat.reduceLeDiff, Nat.reduceSub, Int.reduceToNat, Nat.reduceBEq, Nat.reduceMul, Nat.reduceLT, Int.reduceLE, Int.reduceLT, Nat.reduceMod, d1, h9, List.length_map]
    refine hk6 _ ?_
    refine evL_take 1 fun K7 hk7 => ?_
    simp only [shA, if_true, if_false, ite_true, ite_false, forall_const, ite_self, eq_self, reduceIte, reduceCtorEq, Nat.reduceEqDiff, Nat.reduceAdd, Nat.reduceLeDiff, Nat.reduceSub, Int.reduceToNat, Nat.reduceBEq, Nat.reduceMul, Nat.reduceLT, Int.reduceLE, Int.reduceLT, Nat.reduceMod, d1, h9, List.length_map]
    refine Or.inl (Or.inl ⟨_, ok_l5great g g2 w l, ?_⟩)
    refine hk7 _ ?_
    refine evL_take 4 fun K8 hk8 => ?_
    simp only [shA, if_true, if_false, ite_true, ite_false, forall_const, ite_self, eq_self, reduceIte, reduceCtorEq, Nat.reduceEqDiff, Nat.reduceAdd, Nat.reduceLeDiff, Nat.reduceSub, Int.reduceToNat, Nat.reduceBEq, Nat.reduceMul, Nat.reduceLT, Int.reduceLE, Int.reduceLT, Nat.reduceMod, d1, h9, List.length_map]
    repeat (refine ⟨by first | assumption | omega | decide | (simp; done) | (simp_all; done) | (simp; omega), ?_⟩)
    refine hk8 _ ?_
    simp only [shA, if_true, if_false, ite_true, ite_false, forall_const, ite_self, eq_self, reduceIte, reduceCtorEq, Nat.reduceEqDiff, Nat.reduceAdd, Nat.reduceLeDiff, Nat.reduceSub, Int.reduceToNat, Nat.reduceBEq, Nat.reduceMul, Nat.reduceLT, Int.reduceLE, Int.reduceLT, Nat.reduceMod, d1, h9, List.length_map]
    refine hk5 _ ?_
    refine hn4 (some ([0, 1, 2, 30, 58, 59, 60, 61, 62, 63, 64, 65, 66, 95, 96, 97, 100, 101, 102, 103, 104, 107, 108, 109, 110, 111], none)) _ ?_
    refine ev_cond_k rfl (fun hc0 => ?_) (fun hx => absurd hx (by simp at hx))
    clear hc0
    refine ev_seq_k fun K9 hn9 hr9 he9 => ?_
    refine ev_ops_k fun K10 hk10 => ?_
    refine evL_take 1 fun K11 hk11 => ?_
    simp only [shA, if_true, if_false, ite_true, ite_false, forall_const, ite_self, eq_self, reduceIte, reduceCtorEq, Nat.reduceEqDiff, Nat.reduceAdd, Nat.reduceLeDiff, Nat.reduceSub, Int.reduceToNat, Nat.reduceBEq, Nat.reduceMul, Nat.reduceLT, Int.reduceLE, Int.reduceLT, Nat.reduceMod, d1, h9, List.length_map]
    refine Or.inl (Or.inl ⟨_, ok_l5awake, ?_⟩)
    refine hk11 _ ?_
    simp only [shA, if_true, if_false, ite_true, ite_false, forall_const, ite_self, eq_self, reduceIte, reduceCtorEq, Nat.reduceEqDiff, Nat.reduceAdd, Nat.reduceLeDiff, Nat.reduceSub, Int.reduceToNat, Nat.reduceBEq, Nat.reduceMul, Nat.reduceLT, Int.reduceLE, Int.reduceLT, Nat.reduceMod, d1, h9, List.length_map]
    refine hk10 _ ?_
    refine hn9 (some ([6], none)) _ ?_
    refine hr3 _ ?_
    simp only [shA, if_true, if_false, ite_true, ite_false, forall_const, ite_self, eq_self, reduceIte, reduceCtorEq, Nat.reduceEqDiff, Nat.reduceAdd, Nat.reduceLeDiff, Nat.reduceSub, Int.reduceToNat, Nat.reduceBEq, Nat.reduceMul, Nat.reduceLT, Int.reduceLE, Int.reduceLT, Nat.reduceMod, ev, fin, rv_LineApart, d1, h9, List.length_map]
  have hgd := runA_good w l (by omega)
  have hrun0 : runA w l 0 = (newM w, newM w) := rfl
  have hn0 := ok_lineNew g w (by omega)
  obtain ⟨pf, qf, sf, ff⟩ := hgd l.length
  have hcr := fun L hG => ok_lCrash L c (LGood.lines (n := l.length) hG) (fun y hy => Nat.le_trans (LGood.most hG y hy) (by omega))
  obtain ⟨ps, hps⟩ : ∃ ps, ps = leftM (runA w l l.length).1 (mixF c) := ⟨_, rfl⟩
  obtain ⟨qs, hqs⟩ : ∃ qs, qs = leftM (runA w l l.length).2 (mixF c) := ⟨_, rfl⟩
  have hcp := hcr _ pf
  have hcq := hcr _ qf
  rw [← hps] at hcp
  rw [← hqs] at hcq
  have hpl : (ps.length : Int) = w.length := by rw [hps]; unfold leftM; rw [lefN_len, ff]
  have hql : (qs.length : Int) = w.length := by rw [hqs]; unfold leftM; rw [lefN_len, ← sf.first, ff]
  have hpq : ∀ i, i < 8 → ps[i]? = qs[i]? := fun i hi => by rw [hps, hqs]; exact apart_left sf pf.lines qf.lines _ (by rw [ff]; omega) i hi
  have hkk : keptM (runA w l l.length).2 0 = keptM (runA w l l.length).1 0 := by simp [keptM, sf.log]
  have hka := ok_lKept (runA w l l.length).1 0
  have hkb := ok_lKept (runA w l l.length).2 0
  rw [hkk] at hkb
  obtain ⟨e1, he1⟩ : ∃ e, e = (keptM (runA w l l.length).1 0).1 := ⟨_, rfl⟩
  obtain ⟨e2, he2⟩ : ∃ e, e = (keptM (runA w l l.length).1 0).2 := ⟨_, rfl⟩
  rw [← he1, ← he2] at hka hkb
  clear hcr hkk he1 he2 hps hqs
  unfold evFn sc_LineApart
  refine ev_seq_k fun K1 hn1 hr1 he1 => ?_
  refine ev_ops_k fun K2 hk2 => ?_
  simp only [shA, if_true, if_false, ite_true, ite_false, forall_const, ite_self, eq_self, reduceIte, reduceCtorEq, Nat.reduceEqDiff, Nat.reduceAdd, Nat.reduceLeDiff, Nat.reduceSub, Int.reduceToNat, Nat.reduceBEq, Nat.reduceMul, Nat.reduceLT, Int.reduceLE, Int.reduceLT, Nat.reduceMod, d1, h9, List.length_map, bne_self_eq_false, Int.reduceBEq, Int.reduceBNe, hpl, hql]
  refine hk2 _ ?_
  refine hn1 (some ([0, 1, 2, 27, 28, 29, 58, 59, 60, 61, 62, 63, 64, 65, 66, 95, 96, 97, 100, 101, 102, 103, 104, 107, 108, 109, 110, 111], none)) _ ?_
  refine ev_seq_k fun K3 hn3 hr3 he3 => ?_
  refine ev_seq_k fun K4 hn4 hr4 he4 => ?_
  refine ev_ops_k fun K5 hk5 => ?_
  refine evL_take 2 fun K6 hk6 => ?_
  simp only [shA, if_true, if_false, ite_true, ite_false, forall_const, ite_self, eq_self, reduceIte, reduceCtorEq, Nat.reduceEqDiff, Nat.reduceAdd, Nat.reduceLeDiff, Nat.reduceSub, Int.reduceToNat, Nat.reduceBEq, Nat.reduceMul, Nat.reduceLT, Int.reduceLE, Int.reduceLT, Nat.reduceMod, d1, h9, List.length_map, bne_self_eq_false, Int.reduceBEq, Int.reduceBNe, hpl, hql]
  refine hk6 _ ?_
  refine evL_take 1 fun K7 hk7 => ?_
  simp only [shA, if_true, if_false, ite_true, ite_false, forall_const, ite_self, eq_self, reduceIte, reduceCtorEq, Nat.reduceEqDiff, Nat.reduceAdd, Nat.reduceLeDiff, Nat.reduceSub, Int.reduceToNat, Nat.reduceBEq, Nat.reduceMul, Nat.reduceLT, Int.reduceLE, Int.reduceLT, Nat.reduceMod, d1, h9, List.length_map, bne_self_eq_false, Int.reduceBEq, Int.reduceBNe, hpl, hql]
  refine Or.inl (Or.inl ⟨_, ok_l5great g g2 w l, ?_⟩)
  refine hk7 _ ?_
  refine evL_take 4 fun K8 hk8 => ?_
  simp only [shA, if_true, if_false, ite_true, ite_false, forall_const, ite_self, eq_self, reduceIte, reduceCtorEq, Nat.reduceEqDiff, Nat.reduceAdd, Nat.reduceLeDiff, Nat.reduceSub, Int.reduceToNat, Nat.reduceBEq, Nat.reduceMul, Nat.reduceLT, Int.reduceLE, Int.reduceLT, Nat.reduceMod, d1, h9, List.length_map, bne_self_eq_false, Int.reduceBEq, Int.reduceBNe, hpl, hql]
  repeat (refine ⟨by first | assumption | omega | decide | (simp; done) | (simp_all; done) | (simp; omega), ?_⟩)
  refine hk8 _ ?_
  simp only [shA, if_true, if_false, ite_true, ite_false, forall_const, ite_self, eq_self, reduceIte, reduceCtorEq, Nat.reduceEqDiff, Nat.reduceAdd, Nat.reduceLeDiff, Nat.reduceSub, Int.reduceToNat, Nat.reduceBEq, Nat.reduceMul, Nat.reduceLT, Int.reduceLE, Int.reduceLT, Nat.reduceMod, d1, h9, List.length_map, bne_self_eq_false, Int.reduceBEq, Int.reduceBNe, hpl, hql]
  refine hk5 _ ?_
  refine hn4 (some ([0, 1, 2, 30, 58, 59, 60, 61, 62, 63, 64, 65, 66, 95, 96, 97, 100, 101, 102, 103, 104, 107, 108, 109, 110, 111], none)) _ ?_
  refine ev_cond_k rfl (fun hx => absurd hx (by simp at hx)) (fun hc0 => ?_)
  clear hc0
  refine hn3 (some ([0, 1, 2, 58, 59, 60, 61, 62, 63, 64, 65, 66, 95, 96, 97, 100, 101, 102, 103, 104, 107, 108, 109, 110, 111], none)) _ ?_
  refine ev_seq_k fun K9 hn9 hr9 he9 => ?_
  refine ev_ops_k fun K10 hk10 => ?_
  refine evL_take 1 fun K11 hk11 => ?_
  simp only [shA, if_true, if_false, ite_true, ite_false, forall_const, ite_self, eq_self, reduceIte, reduceCtorEq, Nat.reduceEqDiff, Nat.reduceAdd, Nat.reduceLeDiff, Nat.reduceSub, Int.reduceToNat, Nat.reduceBEq, Nat.reduceMul, Nat.reduceLT, Int.reduceLE, Int.reduceLT, Nat.reduceMod, d1, h9, List.length_map, bne_self_eq_false, Int.reduceBEq, Int.reduceBNe, hpl, hql]
  refine hk11 _ ?_
  refine evL_take 1 fun K12 hk12 => ?_
  simp only [shA, if_true, if_false, ite_true, ite_false, forall_const, ite_self, eq_self, reduceIte, reduceCtorEq, Nat.reduceEqDiff, Nat.reduceAdd, Nat.reduceLeDiff, Nat.reduceSub, Int.reduceToNat, Nat.reduceBEq, Nat.reduceMul, Nat.reduceLT, Int.reduceLE, Int.reduceLT, Nat.reduceMod, d1, h9, List.length_map, bne_self_eq_false, Int.reduceBEq, Int.reduceBNe, hpl, hql]
  refine Or.inl (Or.inl ⟨_, hn0, ?_⟩)
  refine hk12 _ ?_
  refine evL_take 5 fun K13 hk13 => ?_
  simp only [shA, if_true, if_false, ite_true, ite_false, forall_const, ite_self, eq_self, reduceIte, reduceCtorEq, Nat.reduceEqDiff, Nat.reduceAdd, Nat.reduceLeDiff, Nat.reduceSub, Int.reduceToNat, Nat.reduceBEq, Nat.reduceMul, Nat.reduceLT, Int.reduceLE, Int.reduceLT, Nat.reduceMod, d1, h9, List.length_map, bne_self_eq_false, Int.reduceBEq, Int.reduceBNe, hpl, hql]
  repeat (refine ⟨by first | assumption | omega | decide | (simp; done) | (simp_all; done) | (simp; omega), ?_⟩)
  refine hk13 _ ?_
  simp only [shA, if_true, if_false, ite_true, ite_false, forall_const, ite_self, eq_self, reduceIte, reduceCtorEq, Nat.reduceEqDiff, Nat.reduceAdd, Nat.reduceLeDiff, Nat.reduceSub, Int.reduceToNat, Nat.reduceBEq, Nat.reduceMul, Nat.reduceLT, Int.reduceLE, Int.reduceLT, Nat.reduceMod, d1, h9, List.length_map, bne_self_eq_false, Int.reduceBEq, Int.reduceBNe, hpl, hql]
  refine hk10 _ ?_
  refine hn9 (some ([0, 1, 2, 7, 58, 59, 60, 61, 62, 63, 64, 65, 66, 95, 96, 97, 100, 101, 102, 103, 104, 107, 108, 109, 110, 111], none)) _ ?_
  refine ev_seq_k fun K14 hn14 hr14 he14 => ?_
  refine ev_ops_k fun K15 hk15 => ?_
  refine evL_take 1 fun K16 hk16 => ?_
  simp only [shA, if_true, if_false, ite_true, ite_false, forall_const, ite_self, eq_self, reduceIte, reduceCtorEq, Nat.reduceEqDiff, Nat.reduceAdd, Nat.reduceLeDiff, Nat.reduceSub, Int.reduceToNat, Nat.reduceBEq, Nat.reduceMul, Nat.reduceLT, Int.reduceLE, Int.reduceLT, Nat.reduceMod, d1, h9, List.length_map, bne_self_eq_false, Int.reduceBEq, Int.reduceBNe, hpl, hql]
  repeat (refine ⟨by first | assumption | omega | decide | (simp; done) | (simp_all; done) | (simp; omega), ?_⟩)
  refine hk16 _ ?_
  simp only [shA, if_true, if_false, ite_true, ite_false, forall_const, ite_self, eq_self, reduceIte, reduceCtorEq, Nat.reduceEqDiff, Nat.reduceAdd, Nat.reduceLeDiff, Nat.reduceSub, Int.reduceToNat, Nat.reduceBEq, Nat.reduceMul, Nat.reduceLT, Int.reduceLE, Int.reduceLT, Nat.reduceMod, d1, h9, List.length_map, bne_self_eq_false, Int.reduceBEq, Int.reduceBNe, hpl, hql]
  repeat (refine ⟨by first | assumption | omega | decide | (simp; done) | (simp_all; done) | (simp; omega), ?_⟩)
  refine hk15 _ ?_
  refine hn14 (some ([0, 1, 2, 7, 9, 58, 59, 60, 61, 62, 63, 64, 65, 66, 95, 96, 97, 100, 101, 102, 103, 104, 107, 108, 109, 110, 111], none)) _ ?_
  refine ev_seq_k fun K17 hn17 hr17 he17 => ?_
  refine ev_seq_k fun K18 hn18 hr18 he18 => ?_
  refine ev_ops_k fun K19 hk19 => ?_
  simp only [shA, if_true, if_false, ite_true, ite_false, forall_const, ite_self, eq_self, reduceIte, reduceCtorEq, Nat.reduceEqDiff, Nat.reduceAdd, Nat.reduceLeDiff, Nat.reduceSub, Int.reduceToNat, Nat.reduceBEq, Nat.reduceMul, Nat.reduceLT, Int.reduceLE, Int.reduceLT, Nat.reduceMod, d1, h9, List.length_map, bne_self_eq_false, Int.reduceBEq, Int.reduceBNe, hpl, hql]
  refine hk19 _ ?_
  refine hn18 (some ([0, 1, 2, 7, 9, 10, 58, 59, 60, 61, 62, 63, 64, 65, 66, 95, 96, 97, 100, 101, 102, 103, 104, 107, 108, 109, 110, 111], none)) _ ?_
  refine ev_block_k fun K20 hn20 hx20 hr20 he20 => ?_
  refine ev_loop_k (AInv0 w g l g2 c) (l.length) (some ([0, 1, 2, 7, 9, 10, 95, 96, 97, 100, 101, 102, 103, 104, 107, 108, 109, 110, 111], some ([0, 1], 2))) ([]) ?_ ?_
  · try simp only [St.casts, St.cast, nilS, St.put, St.newO, St.setO, delA, List.getElem?_cons_zero, List.getElem?_cons_succ, List.set_cons_zero, List.set_cons_succ, getA, Nat.reduceEqDiff, reduceCtorEq, keepT, renT, renSh, renC, renO, renOb, idxN, List.map_cons, List.map_nil, List.length_cons, List.length_nil, Nat.reduceAdd, Nat.zero_add, decide_true, St.keep, refsT, refsO, refsL, refsC, refsOk, decide_eq_true_eq, List.contains_cons, List.contains_nil, Bool.or_false, Bool.or_true, Bool.true_or, Bool.false_or, Bool.and_true, Bool.true_and, beq_self_eq_true, Nat.reduceBEq, reduceIte, Nat.blt_eq, Nat.reduceLT, decide_true, Nat.reduceLeDiff, Bool.false_eq_true, Bool.and_eq_true, and_self, true_and, and_true]
    exact ⟨0, by omega, by omega, rfl⟩
  · intro k S1 hI
    obtain ⟨n, hn, rfl, rfl⟩ := hI
    obtain ⟨gx, gy, _, _⟩ := hgd n
    have hcase : n = l.length ∨ ∃ a, l[n]? = some a ∧ (((doneM (runA w l n).1 a).2 = 0 ∧ a.kind % 3 = 2) ∨ ((doneM (runA w l n).1 a).2 = 0 ∧ ¬ a.kind % 3 = 2 ∧ a.place < 8) ∨ ((doneM (runA w l n).1 a).2 = 0 ∧ ¬ a.kind % 3 = 2 ∧ ¬ a.place < 8) ∨ ¬ (doneM (runA w l n).1 a).2 = 0) := by
      rcases Nat.lt_or_ge n l.length with h | h
      · refine .inr ⟨l[n], by simp, ?_⟩
        generalize (doneM (runA w l n).1 l[n]).2 = R
        omega
      · exact .inl (by omega)
    intro K21 hn21 hr21 he21
    rcases hcase with hc | ⟨a, ha, hc | hc | hc | hc⟩
    · skip
      subst hc
      have d2 : ¬ (l.length : Int) < (l.length : Int) := by omega
      refine ev_seq_k fun K22 hn22 hr22 he22 => ?_
      refine ev_seq_k fun K23 hn23 hr23 he23 => ?_
      refine ev_ops_k fun K24 hk24 => ?_
      simp only [shA, if_true, if_false, ite_true, ite_false, forall_const, ite_self, eq_self, reduceIte, reduceCtorEq, Nat.reduceEqDiff, Nat.reduceAdd, Nat.reduceLeDiff, Nat.reduceSub, Int.reduceToNat, Nat.reduceBEq, Nat.reduceMul, Nat.reduceLT, Int.reduceLE, Int.reduceLT, Nat.reduceMod, d1, h9, List.length_map, bne_self_eq_false, Int.reduceBEq, Int.reduceBNe, hpl, hql, d2]
      repeat (refine ⟨by first | assumption | omega | decide | (simp; done) | (simp_all; done) | (simp; omega), ?_⟩)
      refine hk24 _ ?_
      refine hn23 (some ([0, 1, 2, 7, 9, 10, 41, 58, 59, 60, 61, 62, 63, 64, 65, 66, 95, 96, 97, 100, 101, 102, 103, 104, 107, 108, 109, 110, 111], none)) _ ?_
      refine ev_cond_k rfl (fun hx => absurd hx (by simp at hx)) (fun hc1 => ?_)
      clear hc1
      refine he22 0 _ ?_
      refine he21 0 _ ?_
      refine hx20 _ ?_
      refine hn17 (some ([0, 2, 7, 9, 95, 96, 97, 100, 101, 102, 103, 104, 107, 108, 109, 110, 111], none)) _ ?_
      refine ev_seq_k fun K25 hn25 hr25 he25 => ?_
      refine ev_ops_k fun K26 hk26 => ?_
      refine evL_take 1 fun K27 hk27 => ?_
      simp only [shA, if_true, if_false, ite_true, ite_false, forall_const, ite_self, eq_self, reduceIte, reduceCtorEq, Nat.reduceEqDiff, Nat.reduceAdd, Nat.reduceLeDiff, Nat.reduceSub, Int.reduceToNat, Nat.reduceBEq, Nat.reduceMul, Nat.reduceLT, Int.reduceLE, Int.reduceLT, Nat.reduceMod, d1, h9, List.length_map, bne_self_eq_false, Int.reduceBEq, Int.reduceBNe, hpl, hql, d2]
      repeat (refine ⟨by first | assumption | omega | decide | (simp; done) | (simp_all; done) | (simp; omega), ?_⟩)
      refine hk27 _ ?_
      refine evL_take 1 fun K28 hk28 => ?_
      simp only [shA, if_true, if_false, ite_true, ite_false, forall_const, ite_self, eq_self, reduceIte, reduceCtorEq, Nat.reduceEqDiff, Nat.reduceAdd, Nat.reduceLeDiff, Nat.reduceSub, Int.reduceToNat, Nat.reduceBEq, Nat.reduceMul, Nat.reduceLT, Int.reduceLE, Int.reduceLT, Nat.reduceMod, d1, h9, List.length_map, bne_self_eq_false, Int.reduceBEq, Int.reduceBNe, hpl, hql, d2]
      refine Or.inl (Or.inl ⟨_, hka, ?_⟩)
      refine hk28 _ ?_
      simp only [shA, if_true, if_false, ite_true, ite_false, forall_const, ite_self, eq_self, reduceIte, reduceCtorEq, Nat.reduceEqDiff, Nat.reduceAdd, Nat.reduceLeDiff, Nat.reduceSub, Int.reduceToNat, Nat.reduceBEq, Nat.reduceMul, Nat.reduceLT, Int.reduceLE, Int.reduceLT, Nat.reduceMod, d1, h9, List.length_map, bne_self_eq_false, Int.reduceBEq, Int.reduceBNe, hpl, hql, d2]
      refine hk26 _ ?_
      refine hn25 (some ([0, 2, 7, 9, 16, 17, 95, 96, 97, 100, 101, 102, 103, 104, 107, 108, 109, 110, 111], none)) _ ?_
      refine ev_seq_k fun K29 hn29 hr29 he29 => ?_
      refine ev_ops_k fun K30 hk30 => ?_
      refine evL_take 1 fun K31 hk31 => ?_
      simp only [shA, if_true, if_false, ite_true, ite_false, forall_const, ite_self, eq_self, reduceIte, reduceCtorEq, Nat.reduceEqDiff, Nat.reduceAdd, Nat.reduceLeDiff, Nat.reduceSub, Int.reduceToNat, Nat.reduceBEq, Nat.reduceMul, Nat.reduceLT, Int.reduceLE, Int.reduceLT, Nat.reduceMod, d1, h9, List.length_map, bne_self_eq_false, Int.reduceBEq, Int.reduceBNe, hpl, hql, d2]
      repeat (refine ⟨by first | assumption | omega | decide | (simp; done) | (simp_all; done) | (simp; omega), ?_⟩)
      refine hk31 _ ?_
      refine evL_take 1 fun K32 hk32 => ?_
      simp only [shA, if_true, if_false, ite_true, ite_false, forall_const, ite_self, eq_self, reduceIte, reduceCtorEq, Nat.reduceEqDiff, Nat.reduceAdd, Nat.reduceLeDiff, Nat.reduceSub, Int.reduceToNat, Nat.reduceBEq, Nat.reduceMul, Nat.reduceLT, Int.reduceLE, Int.reduceLT, Nat.reduceMod, d1, h9, List.length_map, bne_self_eq_false, Int.reduceBEq, Int.reduceBNe, hpl, hql, d2]
      refine Or.inl (Or.inl ⟨_, hkb, ?_⟩)
      refine hk32 _ ?_
      simp only [shA, if_true, if_false, ite_true, ite_false, forall_const, ite_self, eq_self, reduceIte, reduceCtorEq, Nat.reduceEqDiff, Nat.reduceAdd, Nat.reduceLeDiff, Nat.reduceSub, Int.reduceToNat, Nat.reduceBEq, Nat.reduceMul, Nat.reduceLT, Int.reduceLE, Int.reduceLT, Nat.reduceMod, d1, h9, List.length_map, bne_self_eq_false, Int.reduceBEq, Int.reduceBNe, hpl, hql, d2]
      refine hk30 _ ?_
      refine hn29 (some ([0, 2, 7, 9, 16, 17, 18, 19, 95, 96, 97, 100, 101, 102, 103, 104, 107, 108, 109, 110, 111], none)) _ ?_
      refine ev_seq_k fun K33 hn33 hr33 he33 => ?_
      refine ev_drw_k [] (n := 5) fun K34 hk34 => ?_
      simp only [List.take_succ_cons, List.take_zero, St.frzAll, St.frzSh, St.frzRow, St.frzBox, St.frzCells, St.argL, St.arg1, St.res, Sh.pure, St.setO, getA, delA, keepT, St.keep, reduceIte, Nat.reduceEqDiff, reduceCtorEq, Option.bind_some, Option.map_some, List.contains_cons, List.contains_nil, Nat.reduceBEq, Bool.or_false, Bool.or_true, Bool.false_or, beq_self_eq_true, Bool.false_eq_true]
      refine evF_take 1 fun K36 hk36 => ?_
      simp only [shA, if_true, if_false, ite_true, ite_false, forall_const, ite_self, eq_self, reduceIte, reduceCtorEq, Nat.reduceEqDiff, Nat.reduceAdd, Nat.reduceLeDiff, Nat.reduceSub, Int.reduceToNat, Nat.reduceBEq, Nat.reduceMul, Nat.reduceLT, Int.reduceLE, Int.reduceLT, Nat.reduceMod, d1, h9, List.length_map, bne_self_eq_false, Int.reduceBEq, Int.reduceBNe, hpl, hql, d2]
      repeat (refine ⟨by first | assumption | omega | decide | (simp; done) | (simp_all; done) | (simp; omega), ?_⟩)
      refine hk36 _ _ _ ?_
      refine evF_take 1 fun K37 hk37 => ?_
      simp only [shA, if_true, if_false, ite_true, ite_false, forall_const, ite_self, eq_self, reduceIte, reduceCtorEq, Nat.reduceEqDiff, Nat.reduceAdd, Nat.reduceLeDiff, Nat.reduceSub, Int.reduceToNat, Nat.reduceBEq, Nat.reduceMul, Nat.reduceLT, Int.reduceLE, Int.reduceLT, Nat.reduceMod, d1, h9, List.length_map, bne_self_eq_false, Int.reduceBEq, Int.reduceBNe, hpl, hql, d2]
      refine hk37 _ _ _ ?_
      refine evF_take 1 fun K38 hk38 => ?_
      simp only [shA, if_true, if_false, ite_true, ite_false, forall_const, ite_self, eq_self, reduceIte, reduceCtorEq, Nat.reduceEqDiff, Nat.reduceAdd, Nat.reduceLeDiff, Nat.reduceSub, Int.reduceToNat, Nat.reduceBEq, Nat.reduceMul, Nat.reduceLT, Int.reduceLE, Int.reduceLT, Nat.reduceMod, d1, h9, List.length_map, bne_self_eq_false, Int.reduceBEq, Int.reduceBNe, hpl, hql, d2]
      refine ⟨_, hcp, ?_⟩
      refine hk38 _ _ _ ?_
      refine evF_take 1 fun K39 hk39 => ?_
      simp only [shA, if_true, if_false, ite_true, ite_false, forall_const, ite_self, eq_self, reduceIte, reduceCtorEq, Nat.reduceEqDiff, Nat.reduceAdd, Nat.reduceLeDiff, Nat.reduceSub, Int.reduceToNat, Nat.reduceBEq, Nat.reduceMul, Nat.reduceLT, Int.reduceLE, Int.reduceLT, Nat.reduceMod, d1, h9, List.length_map, bne_self_eq_false, Int.reduceBEq, Int.reduceBNe, hpl, hql, d2]
      repeat (refine ⟨by first | assumption | omega | decide | (simp; done) | (simp_all; done) | (simp; omega), ?_⟩)
      refine hk39 _ _ _ ?_
      simp only [shA, if_true, if_false, ite_true, ite_false, forall_const, ite_self, eq_self, reduceIte, reduceCtorEq, Nat.reduceEqDiff, Nat.reduceAdd, Nat.reduceLeDiff, Nat.reduceSub, Int.reduceToNat, Nat.reduceBEq, Nat.reduceMul, Nat.reduceLT, Int.reduceLE, Int.reduceLT, Nat.reduceMod, d1, h9, List.length_map, bne_self_eq_false, Int.reduceBEq, Int.reduceBNe, hpl, hql, d2]
      refine hk34 _ ?_
      simp only [List.drop_succ_cons, List.drop_zero]
      refine evL_take 1 fun K40 hk40 => ?_
      simp only [shA, if_true, if_false, ite_true, ite_false, forall_const, ite_self, eq_self, reduceIte, reduceCtorEq, Nat.reduceEqDiff, Nat.reduceAdd, Nat.reduceLeDiff, Nat.reduceSub, Int.reduceToNat, Nat.reduceBEq, Nat.reduceMul, Nat.reduceLT, Int.reduceLE, Int.reduceLT, Nat.reduceMod, d1, h9, List.length_map, bne_self_eq_false, Int.reduceBEq, Int.reduceBNe, hpl, hql, d2]
      refine Or.inl (Or.inl ⟨_, hcq, ?_⟩)
      refine hk40 _ ?_
      simp only [shA, if_true, if_false, ite_true, ite_false, forall_const, ite_self, eq_self, reduceIte, reduceCtorEq, Nat.reduceEqDiff, Nat.reduceAdd, Nat.reduceLeDiff, Nat.reduceSub, Int.reduceToNat, Nat.reduceBEq, Nat.reduceMul, Nat.reduceLT, Int.reduceLE, Int.reduceLT, Nat.reduceMod, d1, h9, List.length_map, bne_self_eq_false, Int.reduceBEq, Int.reduceBNe, hpl, hql, d2]
      refine hn33 (some ([0, 16, 17, 18, 19, 20, 21, 95, 96, 97, 100, 101, 102, 103, 104, 107, 108, 109, 110, 111], none)) _ ?_
      refine ev_seq_k fun K41 hn41 hr41 he41 => ?_
      refine ev_seq_k fun K42 hn42 hr42 he42 => ?_
      refine ev_ops_k fun K43 hk43 => ?_
      refine evL_take 3 fun K44 hk44 => ?_
      simp only [shA, if_true, if_false, ite_true, ite_false, forall_const, ite_self, eq_self, reduceIte, reduceCtorEq, Nat.reduceEqDiff, Nat.reduceAdd, Nat.reduceLeDiff, Nat.reduceSub, Int.reduceToNat, Nat.reduceBEq, Nat.reduceMul, Nat.reduceLT, Int.reduceLE, Int.reduceLT, Nat.reduceMod, d1, h9, List.length_map, bne_self_eq_false, Int.reduceBEq, Int.reduceBNe, hpl, hql, d2]
      repeat (refine ⟨by first | assumption | omega | decide | (simp; done) | (simp_all; done) | (simp; omega), ?_⟩)
      refine hk44 _ ?_
      refine evL_take 4 fun K45 hk45 => ?_
      simp only [shA, if_true, if_false, ite_true, ite_false, forall_const, ite_self, eq_self, reduceIte, reduceCtorEq, Nat.reduceEqDiff, Nat.reduceAdd, Nat.reduceLeDiff, Nat.reduceSub, Int.reduceToNat, Nat.reduceBEq, Nat.reduceMul, Nat.reduceLT, Int.reduceLE, Int.reduceLT, Nat.reduceMod, d1, h9, List.length_map, bne_self_eq_false, Int.reduceBEq, Int.reduceBNe, hpl, hql, d2]
      repeat (refine ⟨by first | assumption | omega | decide | (simp; done) | (simp_all; done) | (simp; omega), ?_⟩)
      refine hk45 _ ?_
      refine evL_take 7 fun K46 hk46 => ?_
      simp only [shA, if_true, if_false, ite_true, ite_false, forall_const, ite_self, eq_self, reduceIte, reduceCtorEq, Nat.reduceEqDiff, Nat.reduceAdd, Nat.reduceLeDiff, Nat.reduceSub, Int.reduceToNat, Nat.reduceBEq, Nat.reduceMul, Nat.reduceLT, Int.reduceLE, Int.reduceLT, Nat.reduceMod, d1, h9, List.length_map, bne_self_eq_false, Int.reduceBEq, Int.reduceBNe, hpl, hql, d2]
      repeat (refine ⟨by first | assumption | omega | decide | (simp; done) | (simp_all; done) | (simp; omega), ?_⟩)
      refine hk46 _ ?_
      refine evL_take 7 fun K47 hk47 => ?_
      simp only [shA, if_true, if_false, ite_true, ite_false, forall_const, ite_self, eq_self, reduceIte, reduceCtorEq, Nat.reduceEqDiff, Nat.reduceAdd, Nat.reduceLeDiff, Nat.reduceSub, Int.reduceToNat, Nat.reduceBEq, Nat.reduceMul, Nat.reduceLT, Int.reduceLE, Int.reduceLT, Nat.reduceMod, d1, h9, List.length_map, bne_self_eq_false, Int.reduceBEq, Int.reduceBNe, hpl, hql, d2]
      repeat (refine ⟨by first | assumption | omega | decide | (simp; done) | (simp_all; done) | (simp; omega), ?_⟩)
      refine hk47 _ ?_
      simp only [shA, if_true, if_false, ite_true, ite_false, forall_const, ite_self, eq_self, reduceIte, reduceCtorEq, Nat.reduceEqDiff, Nat.reduceAdd, Nat.reduceLeDiff, Nat.reduceSub, Int.reduceToNat, Nat.reduceBEq, Nat.reduceMul, Nat.reduceLT, Int.reduceLE, Int.reduceLT, Nat.reduceMod, d1, h9, List.length_map, bne_self_eq_false, Int.reduceBEq, Int.reduceBNe, hpl, hql, d2]
      refine hk43 _ ?_
      refine hn42 (some ([20, 21, 112], none)) _ ?_
      refine ev_cond_k rfl (fun hx => absurd hx (by simp at hx)) (fun hc3 => ?_)
      clear hc3
      refine hn41 (some ([20, 21], none)) _ ?_
      refine ev_seq_k fun K48 hn48 hr48 he48 => ?_
      refine ev_seq_k fun K49 hn49 hr49 he49 => ?_
      refine ev_ops_k fun K50 hk50 => ?_
      simp only [shA, if_true, if_false, ite_true, ite_false, forall_const, ite_self, eq_self, reduceIte, reduceCtorEq, Nat.reduceEqDiff, Nat.reduceAdd, Nat.reduceLeDiff, Nat.reduceSub, Int.reduceToNat, Nat.reduceBEq, Nat.reduceMul, Nat.reduceLT, Int.reduceLE, Int.reduceLT, Nat.reduceMod, d1, h9, List.length_map, bne_self_eq_false, Int.reduceBEq, Int.reduceBNe, hpl, hql, d2]
      refine hk50 _ ?_
      refine hn49 (some ([20, 21, 22], none)) _ ?_
      refine ev_block_k fun K51 hn51 hx51 hr51 he51 => ?_
      refine ev_loop_k (AInv1 ps qs) (8) (some ([20, 21, 22], some ([], 0))) ([]) ?_ ?_
      · try simp only [St.casts, St.cast, nilS, St.put, St.newO, St.setO, delA, List.getElem?_cons_zero, List.getElem?_cons_succ, List.set_cons_zero, List.set_cons_succ, getA, Nat.reduceEqDiff, reduceCtorEq, keepT, renT, renSh, renC, renO, renOb, idxN, List.map_cons, List.map_nil, List.length_cons, List.length_nil, Nat.reduceAdd, Nat.zero_add, decide_true, St.keep, refsT, refsO, refsL, refsC, refsOk, decide_eq_true_eq, List.contains_cons, List.contains_nil, Bool.or_false, Bool.or_true, Bool.true_or, Bool.false_or, Bool.and_true, Bool.true_and, beq_self_eq_true, Nat.reduceBEq, reduceIte, Nat.blt_eq, Nat.reduceLT, decide_true, Nat.reduceLeDiff, Bool.false_eq_true, Bool.and_eq_true, and_self, true_and, and_true]
        exact ⟨0, by omega, by omega, rfl⟩
      · intro k S1 hI
        obtain ⟨k, hk, rfl, rfl⟩ := hI
        intro K52 hn52 hr52 he52
        refine ev_seq_k fun K53 hn53 hr53 he53 => ?_
        refine ev_seq_k fun K54 hn54 hr54 he54 => ?_
        refine ev_ops_k fun K55 hk55 => ?_
        simp only [shA, if_true, if_false, ite_true, ite_false, forall_const, ite_self, eq_self, reduceIte, reduceCtorEq, Nat.reduceEqDiff, Nat.reduceAdd, Nat.reduceLeDiff, Nat.reduceSub, Int.reduceToNat, Nat.reduceBEq, Nat.reduceMul, Nat.reduceLT, Int.reduceLE, Int.reduceLT, Nat.reduceMod, d1, h9, List.length_map, bne_self_eq_false, Int.reduceBEq, Int.reduceBNe, hpl, hql, d2]
        repeat (refine ⟨by first | assumption | omega | decide | (simp; done) | (simp_all; done) | (simp; omega), ?_⟩)
        refine hk55 _ ?_
        refine hn54 (some ([20, 21, 22, 114], none)) _ ?_
        refine ev_cond_k rfl (fun hc4 => ?_) (fun hc4 => ?_)
        · try simp only [decide_eq_true_eq, decide_eq_false_iff_not, Bool.not_eq_true', Bool.not_eq_false', Bool.not_eq_eq_eq_not, Bool.not_true, Bool.not_false, beq_iff_eq, bne_iff_ne, beq_eq_false_iff_ne, bne_eq_false_iff_eq, ne_eq, Int.not_le, Int.not_lt] at hc4
          obtain ⟨u, hu⟩ : ∃ u, ps[k]? = some u := ⟨_, List.getElem?_eq_getElem (by omega)⟩
          have hu2 : qs[k]? = some u := by rw [← hpq k (by omega)]; exact hu
          have q4 : IntKind.i64.wrap ((k : Int) + 1) = ((k + 1 : Nat) : Int) := by rw [IntKind.wrap_i64]; omega
          refine hn53 (some ([20, 21, 22], none)) _ ?_
          refine ev_seq_k fun K56 hn56 hr56 he56 => ?_
          refine ev_block_k fun K57 hn57 hx57 hr57 he57 => ?_
          refine ev_seq_k fun K58 hn58 hr58 he58 => ?_
          refine ev_drw_k [] (n := 8) fun K59 hk59 => ?_
          simp only [List.take_succ_cons, List.take_zero, St.frzAll, St.frzSh, St.frzRow, St.frzBox, St.frzCells, St.argL, St.arg1, St.res, Sh.pure, St.setO, getA, delA, keepT, St.keep, reduceIte, Nat.reduceEqDiff, reduceCtorEq, Option.bind_some, Option.map_some, List.contains_cons, List.contains_nil, Nat.reduceBEq, Bool.or_false, Bool.or_true, Bool.false_or, beq_self_eq_true, Bool.false_eq_true]
          refine evF_take 3 fun K61 hk61 => ?_
          simp only [shA, if_true, if_false, ite_true, ite_false, forall_const, ite_self, eq_self, reduceIte, reduceCtorEq, Nat.reduceEqDiff, Nat.reduceAdd, Nat.reduceLeDiff, Nat.reduceSub, Int.reduceToNat, Nat.reduceBEq, Nat.reduceMul, Nat.reduceLT, Int.reduceLE, Int.reduceLT, Nat.reduceMod, d1, h9, List.length_map, bne_self_eq_false, Int.reduceBEq, Int.reduceBNe, hpl, hql, d2, List.getElem?_map, Int.toNat_natCast, hu, hu2, q4]
          repeat (refine ⟨by first | assumption | omega | decide | (simp; done) | (simp_all; done) | (simp; omega), ?_⟩)
          refine hk61 _ _ _ ?_
          refine evF_take 1 fun K62 hk62 => ?_
          simp only [shA, if_true, if_false, ite_true, ite_false, forall_const, ite_self, eq_self, reduceIte, reduceCtorEq, Nat.reduceEqDiff, Nat.reduceAdd, Nat.reduceLeDiff, Nat.reduceSub, Int.reduceToNat, Nat.reduceBEq, Nat.reduceMul, Nat.reduceLT, Int.reduceLE, Int.reduceLT, Nat.reduceMod, d1, h9, List.length_map, bne_self_eq_false, Int.reduceBEq, Int.reduceBNe, hpl, hql, d2, List.getElem?_map, Int.toNat_natCast, hu, hu2, q4]
          repeat (refine ⟨by first | assumption | omega | decide | (simp; done) | (simp_all; done) | (simp; omega), ?_⟩)
          refine hk62 _ _ _ ?_
          refine evF_take 3 fun K63 hk63 => ?_
          simp only [shA, if_true, if_false, ite_true, ite_false, forall_const, ite_self, eq_self, reduceIte, reduceCtorEq, Nat.reduceEqDiff, Nat.reduceAdd, Nat.reduceLeDiff, Nat.reduceSub, Int.reduceToNat, Nat.reduceBEq, Nat.reduceMul, Nat.reduceLT, Int.reduceLE, Int.reduceLT, Nat.reduceMod, d1, h9, List.length_map, bne_self_eq_false, Int.reduceBEq, Int.reduceBNe, hpl, hql, d2, List.getElem?_map, Int.toNat_natCast, hu, hu2, q4]
          repeat (refine ⟨by first | assumption | omega | decide | (simp; done) | (simp_all; done) | (simp; omega), ?_⟩)
          refine hk63 _ _ _ ?_
          simp only [shA, if_true, if_false, ite_true, ite_false, forall_const, ite_self, eq_self, reduceIte, reduceCtorEq, Nat.reduceEqDiff, Nat.reduceAdd, Nat.reduceLeDiff, Nat.reduceSub, Int.reduceToNat, Nat.reduceBEq, Nat.reduceMul, Nat.reduceLT, Int.reduceLE, Int.reduceLT, Nat.reduceMod, d1, h9, List.length_map, bne_self_eq_false, Int.reduceBEq, Int.reduceBNe, hpl, hql, d2, List.getElem?_map, Int.toNat_natCast, hu, hu2, q4]
          repeat (refine ⟨by first | assumption | omega | decide | (simp; done) | (simp_all; done) | (simp; omega), ?_⟩)
          refine hk59 _ ?_
          simp only [List.drop_succ_cons, List.drop_zero]
          simp only [shA, if_true, if_false, ite_true, ite_false, forall_const, ite_self, eq_self, reduceIte, reduceCtorEq, Nat.reduceEqDiff, Nat.reduceAdd, Nat.reduceLeDiff, Nat.reduceSub, Int.reduceToNat, Nat.reduceBEq, Nat.reduceMul, Nat.reduceLT, Int.reduceLE, Int.reduceLT, Nat.reduceMod, d1, h9, List.length_map, bne_self_eq_false, Int.reduceBEq, Int.reduceBNe, hpl, hql, d2, List.getElem?_map, Int.toNat_natCast, hu, hu2, q4]
          refine Or.inl ⟨_, eqsh_word_refl u, ?_⟩
          refine hn58 (some ([20, 21, 22, 125], none)) _ ?_
          refine ev_cond_k rfl (fun hx => absurd hx (by simp at hx)) (fun hc5 => ?_)
          clear hc5
          refine hn57 _ ?_
          refine hn56 (some ([20, 21, 22], none)) _ ?_
          refine ev_ops_k fun K64 hk64 => ?_
          refine evL_take 2 fun K65 hk65 => ?_
          simp only [shA, if_true, if_false, ite_true, ite_false, forall_const, ite_self, eq_self, reduceIte, reduceCtorEq, Nat.reduceEqDiff, Nat.reduceAdd, Nat.reduceLeDiff, Nat.reduceSub, Int.reduceToNat, Nat.reduceBEq, Nat.reduceMul, Nat.reduceLT, Int.reduceLE, Int.reduceLT, Nat.reduceMod, d1, h9, List.length_map, bne_self_eq_false, Int.reduceBEq, Int.reduceBNe, hpl, hql, d2, List.getElem?_map, Int.toNat_natCast, hu, hu2, q4]
          repeat (refine ⟨by first | assumption | omega | decide | (simp; done) | (simp_all; done) | (simp; omega), ?_⟩)
          refine hk65 _ ?_
          simp only [shA, if_true, if_false, ite_true, ite_false, forall_const, ite_self, eq_self, reduceIte, reduceCtorEq, Nat.reduceEqDiff, Nat.reduceAdd, Nat.reduceLeDiff, Nat.reduceSub, Int.reduceToNat, Nat.reduceBEq, Nat.reduceMul, Nat.reduceLT, Int.reduceLE, Int.reduceLT, Nat.reduceMod, d1, h9, List.length_map, bne_self_eq_false, Int.reduceBEq, Int.reduceBNe, hpl, hql, d2, List.getElem?_map, Int.toNat_natCast, hu, hu2, q4]
          refine hk64 _ ?_
          refine hn52 (8 - (k + 1)) (some ([20, 21, 22], some ([], 0))) _ ?_ ?_
          all_goals try simp only [St.casts, St.cast, nilS, St.put, St.newO, St.setO, delA, List.getElem?_cons_zero, List.getElem?_cons_succ, List.set_cons_zero, List.set_cons_succ, getA, Nat.reduceEqDiff, reduceCtorEq, keepT, renT, renSh, renC, renO, renOb, idxN, List.map_cons, List.map_nil, List.length_cons, List.length_nil, Nat.reduceAdd, Nat.zero_add, decide_true, St.keep, refsT, refsO, refsL, refsC, refsOk, decide_eq_true_eq, List.contains_cons, List.contains_nil, Bool.or_false, Bool.or_true, Bool.true_or, Bool.false_or, Bool.and_true, Bool.true_and, beq_self_eq_true, Nat.reduceBEq, reduceIte, Nat.blt_eq, Nat.reduceLT, decide_true, Nat.reduceLeDiff, Bool.false_eq_true, Bool.and_eq_true, and_self, true_and, and_true]
          · omega
          · exact ⟨k + 1, by omega, by omega, rfl⟩
        · try simp only [decide_eq_true_eq, decide_eq_false_iff_not, Bool.not_eq_true', Bool.not_eq_false', Bool.not_eq_eq_eq_not, Bool.not_true, Bool.not_false, beq_iff_eq, bne_iff_ne, beq_eq_false_iff_ne, bne_eq_false_iff_eq, ne_eq, Int.not_le, Int.not_lt] at hc4
          refine he53 2 _ ?_
          refine he52 2 _ ?_
          refine hx51 _ ?_
          refine hn48 (some ([], none)) _ ?_
          refine ev_seq_k fun K66 hn66 hr66 he66 => ?_
          refine ev_ops_k fun K67 hk67 => ?_
          refine evL_take 1 fun K68 hk68 => ?_
          simp only [shA, if_true, if_false, ite_true, ite_false, forall_const, ite_self, eq_self, reduceIte, reduceCtorEq, Nat.reduceEqDiff, Nat.reduceAdd, Nat.reduceLeDiff, Nat.reduceSub, Int.reduceToNat, Nat.reduceBEq, Nat.reduceMul, Nat.reduceLT, Int.reduceLE, Int.reduceLT, Nat.reduceMod, d1, h9, List.length_map, bne_self_eq_false, Int.reduceBEq, Int.reduceBNe, hpl, hql, d2]
          refine Or.inl (Or.inl ⟨_, ok_l5awake, ?_⟩)
          refine hk68 _ ?_
          simp only [shA, if_true, if_false, ite_true, ite_false, forall_const, ite_self, eq_self, reduceIte, reduceCtorEq, Nat.reduceEqDiff, Nat.reduceAdd, Nat.reduceLeDiff, Nat.reduceSub, Int.reduceToNat, Nat.reduceBEq, Nat.reduceMul, Nat.reduceLT, Int.reduceLE, Int.reduceLT, Nat.reduceMod, d1, h9, List.length_map, bne_self_eq_false, Int.reduceBEq, Int.reduceBNe, hpl, hql, d2]
          refine hk67 _ ?_
          refine hn66 (some ([6], none)) _ ?_
          simp only [shA, if_true, if_false, ite_true, ite_false, forall_const, ite_self, eq_self, reduceIte, reduceCtorEq, Nat.reduceEqDiff, Nat.reduceAdd, Nat.reduceLeDiff, Nat.reduceSub, Int.reduceToNat, Nat.reduceBEq, Nat.reduceMul, Nat.reduceLT, Int.reduceLE, Int.reduceLT, Nat.reduceMod, ev, fin, rv_LineApart, d1, h9, List.length_map, bne_self_eq_false, Int.reduceBEq, Int.reduceBNe, hpl, hql, d2]
    · skip
      obtain ⟨c1, c2⟩ := hc
      have d2 : (n : Int) < (l.length : Int) := by have := (List.getElem?_eq_some_iff.1 ha).1; omega
      have hkd := hl a (List.mem_of_getElem? ha)
      have q0 : a.kind.tmod 3 = a.kind % 3 := Int.tmod_eq_emod_of_nonneg hkd.1
      have q3 : IntKind.i64.wrap ((n : Int) + 1) = ((n + 1 : Nat) : Int) := by rw [IntKind.wrap_i64]; omega
      have hap : apartM (runA w l n).1 (runA w l n).2 a = (doneM (runA w l n).2 a).1 := if_pos ⟨c1, .inl c2⟩
      have hd1 := ok_l5done _ n a gx (by omega) hkd
      have hd2 := ok_l5done _ n a gy (by omega) hkd
      refine ev_seq_k fun K69 hn69 hr69 he69 => ?_
      refine ev_seq_k fun K70 hn70 hr70 he70 => ?_
      refine ev_ops_k fun K71 hk71 => ?_
      simp only [shA, if_true, if_false, ite_true, ite_false, forall_const, ite_self, eq_self, reduceIte, reduceCtorEq, Nat.reduceEqDiff, Nat.reduceAdd, Nat.reduceLeDiff, Nat.reduceSub, Int.reduceToNat, Nat.reduceBEq, Nat.reduceMul, Nat.reduceLT, Int.reduceLE, Int.reduceLT, Nat.reduceMod, d1, h9, List.length_map, bne_self_eq_false, Int.reduceBEq, Int.reduceBNe, hpl, hql, List.getElem?_map, Int.toNat_natCast, d2, ha, q0, q3, c1, c2]
      repeat (refine ⟨by first | assumption | omega | decide | (simp; done) | (simp_all; done) | (simp; omega), ?_⟩)
      refine hk71 _ ?_
      refine hn70 (some ([0, 1, 2, 7, 9, 10, 41, 58, 59, 60, 61, 62, 63, 64, 65, 66, 95, 96, 97, 100, 101, 102, 103, 104, 107, 108, 109, 110, 111], none)) _ ?_
      refine ev_cond_k rfl (fun hc1 => ?_) (fun hx => absurd hx (by simp at hx))
      clear hc1
      refine hn69 (some ([0, 1, 2, 7, 9, 10, 58, 59, 60, 61, 62, 63, 64, 65, 66, 95, 96, 97, 100, 101, 102, 103, 104, 107, 108, 109, 110, 111], none)) _ ?_
      refine ev_seq_k fun K72 hn72 hr72 he72 => ?_
      refine ev_block_k fun K73 hn73 hx73 hr73 he73 => ?_
      refine ev_seq_k fun K74 hn74 hr74 he74 => ?_
      refine ev_ops_k fun K75 hk75 => ?_
      refine evL_take 3 fun K76 hk76 => ?_
      simp only [shA, if_true, if_false, ite_true, ite_false, forall_const, ite_self, eq_self, reduceIte, reduceCtorEq, Nat.reduceEqDiff, Nat.reduceAdd, Nat.reduceLeDiff, Nat.reduceSub, Int.reduceToNat, Nat.reduceBEq, Nat.reduceMul, Nat.reduceLT, Int.reduceLE, Int.reduceLT, Nat.reduceMod, d1, h9, List.length_map, bne_self_eq_false, Int.reduceBEq, Int.reduceBNe, hpl, hql, List.getElem?_map, Int.toNat_natCast, d2, ha, q0, q3, c1, c2]
      repeat (refine ⟨by first | assumption | omega | decide | (simp; done) | (simp_all; done) | (simp; omega), ?_⟩)
      refine hk76 _ ?_
      refine evL_take 1 fun K77 hk77 => ?_
      simp only [shA, if_true, if_false, ite_true, ite_false, forall_const, ite_self, eq_self, reduceIte, reduceCtorEq, Nat.reduceEqDiff, Nat.reduceAdd, Nat.reduceLeDiff, Nat.reduceSub, Int.reduceToNat, Nat.reduceBEq, Nat.reduceMul, Nat.reduceLT, Int.reduceLE, Int.reduceLT, Nat.reduceMod, d1, h9, List.length_map, bne_self_eq_false, Int.reduceBEq, Int.reduceBNe, hpl, hql, List.getElem?_map, Int.toNat_natCast, d2, ha, q0, q3, c1, c2]
      repeat (refine ⟨by first | assumption | omega | decide | (simp; done) | (simp_all; done) | (simp; omega), ?_⟩)
      refine hk77 _ ?_
      simp only [shA, if_true, if_false, ite_true, ite_false, forall_const, ite_self, eq_self, reduceIte, reduceCtorEq, Nat.reduceEqDiff, Nat.reduceAdd, Nat.reduceLeDiff, Nat.reduceSub, Int.reduceToNat, Nat.reduceBEq, Nat.reduceMul, Nat.reduceLT, Int.reduceLE, Int.reduceLT, Nat.reduceMod, d1, h9, List.length_map, bne_self_eq_false, Int.reduceBEq, Int.reduceBNe, hpl, hql, List.getElem?_map, Int.toNat_natCast, d2, ha, q0, q3, c1, c2]
      repeat (refine ⟨by first | assumption | omega | decide | (simp; done) | (simp_all; done) | (simp; omega), ?_⟩)
      refine hk75 _ ?_
      refine hn74 (some ([0, 1, 2, 7, 9, 10, 11, 58, 59, 60, 61, 62, 63, 64, 65, 66, 95, 96, 97, 100, 101, 102, 103, 104, 107, 108, 109, 110, 111], none)) _ ?_
      refine ev_seq_k fun K78 hn78 hr78 he78 => ?_
      refine ev_ops_k fun K79 hk79 => ?_
      refine evL_take 1 fun K80 hk80 => ?_
      simp only [shA, if_true, if_false, ite_true, ite_false, forall_const, ite_self, eq_self, reduceIte, reduceCtorEq, Nat.reduceEqDiff, Nat.reduceAdd, Nat.reduceLeDiff, Nat.reduceSub, Int.reduceToNat, Nat.reduceBEq, Nat.reduceMul, Nat.reduceLT, Int.reduceLE, Int.reduceLT, Nat.reduceMod, d1, h9, List.length_map, bne_self_eq_false, Int.reduceBEq, Int.reduceBNe, hpl, hql, List.getElem?_map, Int.toNat_natCast, d2, ha, q0, q3, c1, c2]
      repeat (refine ⟨by first | assumption | omega | decide | (simp; done) | (simp_all; done) | (simp; omega), ?_⟩)
      refine hk80 _ ?_
      refine evL_take 1 fun K81 hk81 => ?_
      simp only [shA, if_true, if_false, ite_true, ite_false, forall_const, ite_self, eq_self, reduceIte, reduceCtorEq, Nat.reduceEqDiff, Nat.reduceAdd, Nat.reduceLeDiff, Nat.reduceSub, Int.reduceToNat, Nat.reduceBEq, Nat.reduceMul, Nat.reduceLT, Int.reduceLE, Int.reduceLT, Nat.reduceMod, d1, h9, List.length_map, bne_self_eq_false, Int.reduceBEq, Int.reduceBNe, hpl, hql, List.getElem?_map, Int.toNat_natCast, d2, ha, q0, q3, c1, c2]
      repeat (refine ⟨by first | assumption | omega | decide | (simp; done) | (simp_all; done) | (simp; omega), ?_⟩)
      refine hk81 _ ?_
      refine evL_take 1 fun K82 hk82 => ?_
      simp only [shA, if_true, if_false, ite_true, ite_false, forall_const, ite_self, eq_self, reduceIte, reduceCtorEq, Nat.reduceEqDiff, Nat.reduceAdd, Nat.reduceLeDiff, Nat.reduceSub, Int.reduceToNat, Nat.reduceBEq, Nat.reduceMul, Nat.reduceLT, Int.reduceLE, Int.reduceLT, Nat.reduceMod, d1, h9, List.length_map, bne_self_eq_false, Int.reduceBEq, Int.reduceBNe, hpl, hql, List.getElem?_map, Int.toNat_natCast, d2, ha, q0, q3, c1, c2]
      refine Or.inl (Or.inl ⟨_, hd1, ?_⟩)
      refine hk82 _ ?_
      refine evL_take 5 fun K83 hk83 => ?_
      simp only [shA, if_true, if_false, ite_true, ite_false, forall_const, ite_self, eq_self, reduceIte, reduceCtorEq, Nat.reduceEqDiff, Nat.reduceAdd, Nat.reduceLeDiff, Nat.reduceSub, Int.reduceToNat, Nat.reduceBEq, Nat.reduceMul, Nat.reduceLT, Int.reduceLE, Int.reduceLT, Nat.reduceMod, d1, h9, List.length_map, bne_self_eq_false, Int.reduceBEq, Int.reduceBNe, hpl, hql, List.getElem?_map, Int.toNat_natCast, d2, ha, q0, q3, c1, c2]
      repeat (refine ⟨by first | assumption | omega | decide | (simp; done) | (simp_all; done) | (simp; omega), ?_⟩)
      refine hk83 _ ?_
      simp only [shA, if_true, if_false, ite_true, ite_false, forall_const, ite_self, eq_self, reduceIte, reduceCtorEq, Nat.reduceEqDiff, Nat.reduceAdd, Nat.reduceLeDiff, Nat.reduceSub, Int.reduceToNat, Nat.reduceBEq, Nat.reduceMul, Nat.reduceLT, Int.reduceLE, Int.reduceLT, Nat.reduceMod, d1, h9, List.length_map, bne_self_eq_false, Int.reduceBEq, Int.reduceBNe, hpl, hql, List.getElem?_map, Int.toNat_natCast, d2, ha, q0, q3, c1, c2]
      refine hk79 _ ?_
      refine hn78 (some ([0, 1, 2, 7, 9, 10, 11, 12, 13, 58, 59, 60, 61, 62, 63, 64, 65, 66, 95, 96, 97, 100, 101, 102, 103, 104, 107, 108, 109, 110, 111], none)) _ ?_
      refine ev_seq_k fun K84 hn84 hr84 he84 => ?_
      refine ev_ops_k fun K85 hk85 => ?_
      refine evL_take 1 fun K86 hk86 => ?_
      simp only [shA, if_true, if_false, ite_true, ite_false, forall_const, ite_self, eq_self, reduceIte, reduceCtorEq, Nat.reduceEqDiff, Nat.reduceAdd, Nat.reduceLeDiff, Nat.reduceSub, Int.reduceToNat, Nat.reduceBEq, Nat.reduceMul, Nat.reduceLT, Int.reduceLE, Int.reduceLT, Nat.reduceMod, d1, h9, List.length_map, bne_self_eq_false, Int.reduceBEq, Int.reduceBNe, hpl, hql, List.getElem?_map, Int.toNat_natCast, d2, ha, q0, q3, c1, c2]
      repeat (refine ⟨by first | assumption | omega | decide | (simp; done) | (simp_all; done) | (simp; omega), ?_⟩)
      refine hk86 _ ?_
      simp only [shA, if_true, if_false, ite_true, ite_false, forall_const, ite_self, eq_self, reduceIte, reduceCtorEq, Nat.reduceEqDiff, Nat.reduceAdd, Nat.reduceLeDiff, Nat.reduceSub, Int.reduceToNat, Nat.reduceBEq, Nat.reduceMul, Nat.reduceLT, Int.reduceLE, Int.reduceLT, Nat.reduceMod, d1, h9, List.length_map, bne_self_eq_false, Int.reduceBEq, Int.reduceBNe, hpl, hql, List.getElem?_map, Int.toNat_natCast, d2, ha, q0, q3, c1, c2]
      repeat (refine ⟨by first | assumption | omega | decide | (simp; done) | (simp_all; done) | (simp; omega), ?_⟩)
      refine hk85 _ ?_
      refine hn84 (some ([0, 1, 2, 7, 9, 10, 11, 13, 58, 59, 60, 61, 62, 63, 64, 65, 66, 95, 96, 97, 100, 101, 102, 103, 104, 107, 108, 109, 110, 111], none)) _ ?_
      refine ev_seq_k fun K87 hn87 hr87 he87 => ?_
      refine ev_ops_k fun K88 hk88 => ?_
      refine evL_take 2 fun K89 hk89 => ?_
      simp only [shA, if_true, if_false, ite_true, ite_false, forall_const, ite_self, eq_self, reduceIte, reduceCtorEq, Nat.reduceEqDiff, Nat.reduceAdd, Nat.reduceLeDiff, Nat.reduceSub, Int.reduceToNat, Nat.reduceBEq, Nat.reduceMul, Nat.reduceLT, Int.reduceLE, Int.reduceLT, Nat.reduceMod, d1, h9, List.length_map, bne_self_eq_false, Int.reduceBEq, Int.reduceBNe, hpl, hql, List.getElem?_map, Int.toNat_natCast, d2, ha, q0, q3, c1, c2]
      repeat (refine ⟨by first | assumption | omega | decide | (simp; done) | (simp_all; done) | (simp; omega), ?_⟩)
      refine hk89 _ ?_
      refine evL_take 3 fun K90 hk90 => ?_
      simp only [shA, if_true, if_false, ite_true, ite_false, forall_const, ite_self, eq_self, reduceIte, reduceCtorEq, Nat.reduceEqDiff, Nat.reduceAdd, Nat.reduceLeDiff, Nat.reduceSub, Int.reduceToNat, Nat.reduceBEq, Nat.reduceMul, Nat.reduceLT, Int.reduceLE, Int.reduceLT, Nat.reduceMod, d1, h9, List.length_map, bne_self_eq_false, Int.reduceBEq, Int.reduceBNe, hpl, hql, List.getElem?_map, Int.toNat_natCast, d2, ha, q0, q3, c1, c2]
      repeat (refine ⟨by first | assumption | omega | decide | (simp; done) | (simp_all; done) | (simp; omega), ?_⟩)
      refine hk90 _ ?_
      refine evL_take 1 fun K91 hk91 => ?_
      simp only [shA, if_true, if_false, ite_true, ite_false, forall_const, ite_self, eq_self, reduceIte, reduceCtorEq, Nat.reduceEqDiff, Nat.reduceAdd, Nat.reduceLeDiff, Nat.reduceSub, Int.reduceToNat, Nat.reduceBEq, Nat.reduceMul, Nat.reduceLT, Int.reduceLE, Int.reduceLT, Nat.reduceMod, d1, h9, List.length_map, bne_self_eq_false, Int.reduceBEq, Int.reduceBNe, hpl, hql, List.getElem?_map, Int.toNat_natCast, d2, ha, q0, q3, c1, c2]
      repeat (refine ⟨by first | assumption | omega | decide | (simp; done) | (simp_all; done) | (simp; omega), ?_⟩)
      refine hk91 _ ?_
      refine evL_take 1 fun K92 hk92 => ?_
      simp only [shA, if_true, if_false, ite_true, ite_false, forall_const, ite_self, eq_self, reduceIte, reduceCtorEq, Nat.reduceEqDiff, Nat.reduceAdd, Nat.reduceLeDiff, Nat.reduceSub, Int.reduceToNat, Nat.reduceBEq, Nat.reduceMul, Nat.reduceLT, Int.reduceLE, Int.reduceLT, Nat.reduceMod, d1, h9, List.length_map, bne_self_eq_false, Int.reduceBEq, Int.reduceBNe, hpl, hql, List.getElem?_map, Int.toNat_natCast, d2, ha, q0, q3, c1, c2]
      repeat (refine ⟨by first | assumption | omega | decide | (simp; done) | (simp_all; done) | (simp; omega), ?_⟩)
      refine hk92 _ ?_
      refine evL_take 3 fun K93 hk93 => ?_
      simp only [shA, if_true, if_false, ite_true, ite_false, forall_const, ite_self, eq_self, reduceIte, reduceCtorEq, Nat.reduceEqDiff, Nat.reduceAdd, Nat.reduceLeDiff, Nat.reduceSub, Int.reduceToNat, Nat.reduceBEq, Nat.reduceMul, Nat.reduceLT, Int.reduceLE, Int.reduceLT, Nat.reduceMod, d1, h9, List.length_map, bne_self_eq_false, Int.reduceBEq, Int.reduceBNe, hpl, hql, List.getElem?_map, Int.toNat_natCast, d2, ha, q0, q3, c1, c2]
      repeat (refine ⟨by first | assumption | omega | decide | (simp; done) | (simp_all; done) | (simp; omega), ?_⟩)
      refine hk93 _ ?_
      refine evL_take 1 fun K94 hk94 => ?_
      simp only [shA, if_true, if_false, ite_true, ite_false, forall_const, ite_self, eq_self, reduceIte, reduceCtorEq, Nat.reduceEqDiff, Nat.reduceAdd, Nat.reduceLeDiff, Nat.reduceSub, Int.reduceToNat, Nat.reduceBEq, Nat.reduceMul, Nat.reduceLT, Int.reduceLE, Int.reduceLT, Nat.reduceMod, d1, h9, List.length_map, bne_self_eq_false, Int.reduceBEq, Int.reduceBNe, hpl, hql, List.getElem?_map, Int.toNat_natCast, d2, ha, q0, q3, c1, c2]
      repeat (refine ⟨by first | assumption | omega | decide | (simp; done) | (simp_all; done) | (simp; omega), ?_⟩)
      refine hk94 _ ?_
      simp only [shA, if_true, if_false, ite_true, ite_false, forall_const, ite_self, eq_self, reduceIte, reduceCtorEq, Nat.reduceEqDiff, Nat.reduceAdd, Nat.reduceLeDiff, Nat.reduceSub, Int.reduceToNat, Nat.reduceBEq, Nat.reduceMul, Nat.reduceLT, Int.reduceLE, Int.reduceLT, Nat.reduceMod, d1, h9, List.length_map, bne_self_eq_false, Int.reduceBEq, Int.reduceBNe, hpl, hql, List.getElem?_map, Int.toNat_natCast, d2, ha, q0, q3, c1, c2]
      refine hk88 _ ?_
      refine hn87 (some ([0, 1, 2, 7, 9, 10, 11, 67, 95, 96, 97, 100, 101, 102, 103, 104, 107, 108, 109, 110, 111], none)) _ ?_
      refine ev_cond_k rfl (fun hc2 => ?_) (fun hx => absurd hx (by simp at hx))
      clear hc2
      refine ev_seq_k fun K95 hn95 hr95 he95 => ?_
      refine ev_ops_k fun K96 hk96 => ?_
      refine evL_take 1 fun K97 hk97 => ?_
      simp only [shA, if_true, if_false, ite_true, ite_false, forall_const, ite_self, eq_self, reduceIte, reduceCtorEq, Nat.reduceEqDiff, Nat.reduceAdd, Nat.reduceLeDiff, Nat.reduceSub, Int.reduceToNat, Nat.reduceBEq, Nat.reduceMul, Nat.reduceLT, Int.reduceLE, Int.reduceLT, Nat.reduceMod, d1, h9, List.length_map, bne_self_eq_false, Int.reduceBEq, Int.reduceBNe, hpl, hql, List.getElem?_map, Int.toNat_natCast, d2, ha, q0, q3, c1, c2]
      repeat (refine ⟨by first | assumption | omega | decide | (simp; done) | (simp_all; done) | (simp; omega), ?_⟩)
      refine hk97 _ ?_
      refine evL_take 1 fun K98 hk98 => ?_
      simp only [shA, if_true, if_false, ite_true, ite_false, forall_const, ite_self, eq_self, reduceIte, reduceCtorEq, Nat.reduceEqDiff, Nat.reduceAdd, Nat.reduceLeDiff, Nat.reduceSub, Int.reduceToNat, Nat.reduceBEq, Nat.reduceMul, Nat.reduceLT, Int.reduceLE, Int.reduceLT, Nat.reduceMod, d1, h9, List.length_map, bne_self_eq_false, Int.reduceBEq, Int.reduceBNe, hpl, hql, List.getElem?_map, Int.toNat_natCast, d2, ha, q0, q3, c1, c2]
      repeat (refine ⟨by first | assumption | omega | decide | (simp; done) | (simp_all; done) | (simp; omega), ?_⟩)
      refine hk98 _ ?_
      refine evL_take 1 fun K99 hk99 => ?_
      simp only [shA, if_true, if_false, ite_true, ite_false, forall_const, ite_self, eq_self, reduceIte, reduceCtorEq, Nat.reduceEqDiff, Nat.reduceAdd, Nat.reduceLeDiff, Nat.reduceSub, Int.reduceToNat, Nat.reduceBEq, Nat.reduceMul, Nat.reduceLT, Int.reduceLE, Int.reduceLT, Nat.reduceMod, d1, h9, List.length_map, bne_self_eq_false, Int.reduceBEq, Int.reduceBNe, hpl, hql, List.getElem?_map, Int.toNat_natCast, d2, ha, q0, q3, c1, c2]
      refine Or.inl (Or.inl ⟨_, hd2, ?_⟩)
      refine hk99 _ ?_
      refine evL_take 5 fun K100 hk100 => ?_
      simp only [shA, if_true, if_false, ite_true, ite_false, forall_const, ite_self, eq_self, reduceIte, reduceCtorEq, Nat.reduceEqDiff, Nat.reduceAdd, Nat.reduceLeDiff, Nat.reduceSub, Int.reduceToNat, Nat.reduceBEq, Nat.reduceMul, Nat.reduceLT, Int.reduceLE, Int.reduceLT, Nat.reduceMod, d1, h9, List.length_map, bne_self_eq_false, Int.reduceBEq, Int.reduceBNe, hpl, hql, List.getElem?_map, Int.toNat_natCast, d2, ha, q0, q3, c1, c2]
      repeat (refine ⟨by first | assumption | omega | decide | (simp; done) | (simp_all; done) | (simp; omega), ?_⟩)
      refine hk100 _ ?_
      simp only [shA, if_true, if_false, ite_true, ite_false, forall_const, ite_self, eq_self, reduceIte, reduceCtorEq, Nat.reduceEqDiff, Nat.reduceAdd, Nat.reduceLeDiff, Nat.reduceSub, Int.reduceToNat, Nat.reduceBEq, Nat.reduceMul, Nat.reduceLT, Int.reduceLE, Int.reduceLT, Nat.reduceMod, d1, h9, List.length_map, bne_self_eq_false, Int.reduceBEq, Int.reduceBNe, hpl, hql, List.getElem?_map, Int.toNat_natCast, d2, ha, q0, q3, c1, c2]
      refine hk96 _ ?_
      refine hn95 (some ([0, 1, 2, 7, 9, 10, 14, 95, 96, 97, 100, 101, 102, 103, 104, 107, 108, 109, 110, 111], none)) _ ?_
      refine ev_ops_k fun K101 hk101 => ?_
      refine evL_take 1 fun K102 hk102 => ?_
      simp only [shA, if_true, if_false, ite_true, ite_false, forall_const, ite_self, eq_self, reduceIte, reduceCtorEq, Nat.reduceEqDiff, Nat.reduceAdd, Nat.reduceLeDiff, Nat.reduceSub, Int.reduceToNat, Nat.reduceBEq, Nat.reduceMul, Nat.reduceLT, Int.reduceLE, Int.reduceLT, Nat.reduceMod, d1, h9, List.length_map, bne_self_eq_false, Int.reduceBEq, Int.reduceBNe, hpl, hql, List.getElem?_map, Int.toNat_natCast, d2, ha, q0, q3, c1, c2]
      repeat (refine ⟨by first | assumption | omega | decide | (simp; done) | (simp_all; done) | (simp; omega), ?_⟩)
      refine hk102 _ ?_
      simp only [shA, if_true, if_false, ite_true, ite_false, forall_const, ite_self, eq_self, reduceIte, reduceCtorEq, Nat.reduceEqDiff, Nat.reduceAdd, Nat.reduceLeDiff, Nat.reduceSub, Int.reduceToNat, Nat.reduceBEq, Nat.reduceMul, Nat.reduceLT, Int.reduceLE, Int.reduceLT, Nat.reduceMod, d1, h9, List.length_map, bne_self_eq_false, Int.reduceBEq, Int.reduceBNe, hpl, hql, List.getElem?_map, Int.toNat_natCast, d2, ha, q0, q3, c1, c2]
      repeat (refine ⟨by first | assumption | omega | decide | (simp; done) | (simp_all; done) | (simp; omega), ?_⟩)
      refine hk101 _ ?_
      refine hn73 _ ?_
      refine hn72 (some ([0, 1, 2, 7, 9, 10, 95, 96, 97, 100, 101, 102, 103, 104, 107, 108, 109, 110, 111], none)) _ ?_
      refine ev_ops_k fun K103 hk103 => ?_
      refine evL_take 2 fun K104 hk104 => ?_
      simp only [shA, if_true, if_false, ite_true, ite_false, forall_const, ite_self, eq_self, reduceIte, reduceCtorEq, Nat.reduceEqDiff, Nat.reduceAdd, Nat.reduceLeDiff, Nat.reduceSub, Int.reduceToNat, Nat.reduceBEq, Nat.reduceMul, Nat.reduceLT, Int.reduceLE, Int.reduceLT, Nat.reduceMod, d1, h9, List.length_map, bne_self_eq_false, Int.reduceBEq, Int.reduceBNe, hpl, hql, List.getElem?_map, Int.toNat_natCast, d2, ha, q0, q3, c1, c2]
      repeat (refine ⟨by first | assumption | omega | decide | (simp; done) | (simp_all; done) | (simp; omega), ?_⟩)
      refine hk104 _ ?_
      simp only [shA, if_true, if_false, ite_true, ite_false, forall_const, ite_self, eq_self, reduceIte, reduceCtorEq, Nat.reduceEqDiff, Nat.reduceAdd, Nat.reduceLeDiff, Nat.reduceSub, Int.reduceToNat, Nat.reduceBEq, Nat.reduceMul, Nat.reduceLT, Int.reduceLE, Int.reduceLT, Nat.reduceMod, d1, h9, List.length_map, bne_self_eq_false, Int.reduceBEq, Int.reduceBNe, hpl, hql, List.getElem?_map, Int.toNat_natCast, d2, ha, q0, q3, c1, c2]
      refine hk103 _ ?_
      refine hn21 (l.length - (n + 1)) (some ([0, 1, 2, 7, 9, 10, 95, 96, 97, 100, 101, 102, 103, 104, 107, 108, 109, 110, 111], some ([0, 1], 2))) _ ?_ ?_
      all_goals try simp only [St.casts, St.cast, nilS, St.put, St.newO, St.setO, delA, List.getElem?_cons_zero, List.getElem?_cons_succ, List.set_cons_zero, List.set_cons_succ, getA, Nat.reduceEqDiff, reduceCtorEq, keepT, renT, renSh, renC, renO, renOb, idxN, List.map_cons, List.map_nil, List.length_cons, List.length_nil, Nat.reduceAdd, Nat.zero_add, decide_true, St.keep, refsT, refsO, refsL, refsC, refsOk, decide_eq_true_eq, List.contains_cons, List.contains_nil, Bool.or_false, Bool.or_true, Bool.true_or, Bool.false_or, Bool.and_true, Bool.true_and, beq_self_eq_true, Nat.reduceBEq, reduceIte, Nat.blt_eq, Nat.reduceLT, decide_true, Nat.reduceLeDiff, Bool.false_eq_true, Bool.and_eq_true, and_self, true_and, and_true]
      · omega
      · refine ⟨n + 1, by omega, by omega, ?_⟩
        rw [runA_succ ha, hap]
    · skip
      obtain ⟨c1, c2, c3⟩ := hc
      have d2 : (n : Int) < (l.length : Int) := by have := (List.getElem?_eq_some_iff.1 ha).1; omega
      have hkd := hl a (List.mem_of_getElem? ha)
      have q0 : a.kind.tmod 3 = a.kind % 3 := Int.tmod_eq_emod_of_nonneg hkd.1
      have q3 : IntKind.i64.wrap ((n : Int) + 1) = ((n + 1 : Nat) : Int) := by rw [IntKind.wrap_i64]; omega
      have hap : apartM (runA w l n).1 (runA w l n).2 a = (doneM (runA w l n).2 a).1 := if_pos ⟨c1, .inr c3⟩
      have c4 : (a.kind % 3 == 2) = false := by simpa using c2
      have hd1 := ok_l5done _ n a gx (by omega) hkd
      have hd2 := ok_l5done _ n a gy (by omega) hkd
      refine ev_seq_k fun K105 hn105 hr105 he105 => ?_
      refine ev_seq_k fun K106 hn106 hr106 he106 => ?_
      refine ev_ops_k fun K107 hk107 => ?_
      simp only [shA, if_true, if_false, ite_true, ite_false, forall_const, ite_self, eq_self, reduceIte, reduceCtorEq, Nat.reduceEqDiff, Nat.reduceAdd, Nat.reduceLeDiff, Nat.reduceSub, Int.reduceToNat, Nat.reduceBEq, Nat.reduceMul, Nat.reduceLT, Int.reduceLE, Int.reduceLT, Nat.reduceMod, d1, h9, List.length_map, bne_self_eq_false, Int.reduceBEq, Int.reduceBNe, hpl, hql, List.getElem?_map, Int.toNat_natCast, d2, ha, q0, q3, c1, c4, c3]
      repeat (refine ⟨by first | assumption | omega | decide | (simp; done) | (simp_all; done) | (simp; omega), ?_⟩)
      refine hk107 _ ?_
      refine hn106 (some ([0, 1, 2, 7, 9, 10, 41, 58, 59, 60, 61, 62, 63, 64, 65, 66, 95, 96, 97, 100, 101, 102, 103, 104, 107, 108, 109, 110, 111], none)) _ ?_
      refine ev_cond_k rfl (fun hc1 => ?_) (fun hx => absurd hx (by simp at hx))
      clear hc1
      refine hn105 (some ([0, 1, 2, 7, 9, 10, 58, 59, 60, 61, 62, 63, 64, 65, 66, 95, 96, 97, 100, 101, 102, 103, 104, 107, 108, 109, 110, 111], none)) _ ?_
      refine ev_seq_k fun K108 hn108 hr108 he108 => ?_
      refine ev_block_k fun K109 hn109 hx109 hr109 he109 => ?_
      refine ev_seq_k fun K110 hn110 hr110 he110 => ?_
      refine ev_ops_k fun K111 hk111 => ?_
      refine evL_take 3 fun K112 hk112 => ?_
      simp only [shA, if_true, if_false, ite_true, ite_false, forall_const, ite_self, eq_self, reduceIte, reduceCtorEq, Nat.reduceEqDiff, Nat.reduceAdd, Nat.reduceLeDiff, Nat.reduceSub, Int.reduceToNat, Nat.reduceBEq, Nat.reduceMul, Nat.reduceLT, Int.reduceLE, Int.reduceLT, Nat.reduceMod, d1, h9, List.length_map, bne_self_eq_false, Int.reduceBEq, Int.reduceBNe, hpl, hql, List.getElem?_map, Int.toNat_natCast, d2, ha, q0, q3, c1, c4, c3]
      repeat (refine ⟨by first | assumption | omega | decide | (simp; done) | (simp_all; done) | (simp; omega), ?_⟩)
      refine hk112 _ ?_
      refine evL_take 1 fun K113 hk113 => ?_
      simp only [shA, if_true, if_false, ite_true, ite_false, forall_const, ite_self, eq_self, reduceIte, reduceCtorEq, Nat.reduceEqDiff, Nat.reduceAdd, Nat.reduceLeDiff, Nat.reduceSub, Int.reduceToNat, Nat.reduceBEq, Nat.reduceMul, Nat.reduceLT, Int.reduceLE, Int.reduceLT, Nat.reduceMod, d1, h9, List.length_map, bne_self_eq_false, Int.reduceBEq, Int.reduceBNe, hpl, hql, List.getElem?_map, Int.toNat_natCast, d2, ha, q0, q3, c1, c4, c3]
      repeat (refine ⟨by first | assumption | omega | decide | (simp; done) | (simp_all; done) | (simp; omega), ?_⟩)
      refine hk113 _ ?_
      simp only [shA, if_true, if_false, ite_true, ite_false, forall_const, ite_self, eq_self, reduceIte, reduceCtorEq, Nat.reduceEqDiff, Nat.reduceAdd, Nat.reduceLeDiff, Nat.reduceSub, Int.reduceToNat, Nat.reduceBEq, Nat.reduceMul, Nat.reduceLT, Int.reduceLE, Int.reduceLT, Nat.reduceMod, d1, h9, List.length_map, bne_self_eq_false, Int.reduceBEq, Int.reduceBNe, hpl, hql, List.getElem?_map, Int.toNat_natCast, d2, ha, q0, q3, c1, c4, c3]
      repeat (refine ⟨by first | assumption | omega | decide | (simp; done) | (simp_all; done) | (simp; omega), ?_⟩)
      refine hk111 _ ?_
      refine hn110 (some ([0, 1, 2, 7, 9, 10, 11, 58, 59, 60, 61, 62, 63, 64, 65, 66, 95, 96, 97, 100, 101, 102, 103, 104, 107, 108, 109, 110, 111], none)) _ ?_
      refine ev_seq_k fun K114 hn114 hr114 he114 => ?_
      refine ev_ops_k fun K115 hk115 => ?_
      refine evL_take 1 fun K116 hk116 => ?_
      simp only [shA, if_true, if_false, ite_true, ite_false, forall_const, ite_self, eq_self, reduceIte, reduceCtorEq, Nat.reduceEqDiff, Nat.reduceAdd, Nat.reduceLeDiff, Nat.reduceSub, Int.reduceToNat, Nat.reduceBEq, Nat.reduceMul, Nat.reduceLT, Int.reduceLE, Int.reduceLT, Nat.reduceMod, d1, h9, List.length_map, bne_self_eq_false, Int.reduceBEq, Int.reduceBNe, hpl, hql, List.getElem?_map, Int.toNat_natCast, d2, ha, q0, q3, c1, c4, c3]
      repeat (refine ⟨by first | assumption | omega | decide | (simp; done) | (simp_all; done) | (simp; omega), ?_⟩)
      refine hk116 _ ?_
      refine evL_take 1 fun K117 hk117 => ?_
      simp only [shA, if_true, if_false, ite_true, ite_false, forall_const, ite_self, eq_self, reduceIte, reduceCtorEq, Nat.reduceEqDiff, Nat.reduceAdd, Nat.reduceLeDiff, Nat.reduceSub, Int.reduceToNat, Nat.reduceBEq, Nat.reduceMul, Nat.reduceLT, Int.reduceLE, Int.reduceLT, Nat.reduceMod, d1, h9, List.length_map, bne_self_eq_false, Int.reduceBEq, Int.reduceBNe, hpl, hql, List.getElem?_map, Int.toNat_natCast, d2, ha, q0, q3, c1, c4, c3]
      repeat (refine ⟨by first | assumption | omega | decide | (simp; done) | (simp_all; done) | (simp; omega), ?_⟩)
      refine hk117 _ ?_
      refine evL_take 1 fun K118 hk118 => ?_
      simp only [shA, if_true, if_false, ite_true, ite_false, forall_const, ite_self, eq_self, reduceIte, reduceCtorEq, Nat.reduceEqDiff, Nat.reduceAdd, Nat.reduceLeDiff, Nat.reduceSub, Int.reduceToNat, Nat.reduceBEq, Nat.reduceMul, Nat.reduceLT, Int.reduceLE, Int.reduceLT, Nat.reduceMod, d1, h9, List.length_map, bne_self_eq_false, Int.reduceBEq, Int.reduceBNe, hpl, hql, List.getElem?_map, Int.toNat_natCast, d2, ha, q0, q3, c1, c4, c3]
      refine Or.inl (Or.inl ⟨_, hd1, ?_⟩)
      refine hk118 _ ?_
      refine evL_take 5 fun K119 hk119 => ?_
      simp only [shA, if_true, if_false, ite_true, ite_false, forall_const, ite_self, eq_self, reduceIte, reduceCtorEq, Nat.reduceEqDiff, Nat.reduceAdd, Nat.reduceLeDiff, Nat.reduceSub, Int.reduceToNat, Nat.reduceBEq, Nat.reduceMul, Nat.reduceLT, Int.reduceLE, Int.reduceLT, Nat.reduceMod, d1, h9, List.length_map, bne_self_eq_false, Int.reduceBEq, Int.reduceBNe, hpl, hql, List.getElem?_map, Int.toNat_natCast, d2, ha, q0, q3, c1, c4, c3]
      repeat (refine ⟨by first | assumption | omega | decide | (simp; done) | (simp_all; done) | (simp; omega), ?_⟩)
      refine hk119 _ ?_
      simp only [shA, if_true, if_false, ite_true, ite_false, forall_const, ite_self, eq_self, reduceIte, reduceCtorEq, Nat.reduceEqDiff, Nat.reduceAdd, Nat.reduceLeDiff, Nat.reduceSub, Int.reduceToNat, Nat.reduceBEq, Nat.reduceMul, Nat.reduceLT, Int.reduceLE, Int.reduceLT, Nat.reduceMod, d1, h9, List.length_map, bne_self_eq_false, Int.reduceBEq, Int.reduceBNe, hpl, hql, List.getElem?_map, Int.toNat_natCast, d2, ha, q0, q3, c1, c4, c3]
      refine hk115 _ ?_
      refine hn114 (some ([0, 1, 2, 7, 9, 10, 11, 12, 13, 58, 59, 60, 61, 62, 63, 64, 65, 66, 95, 96, 97, 100, 101, 102, 103, 104, 107, 108, 109, 110, 111], none)) _ ?_
      refine ev_seq_k fun K120 hn120 hr120 he120 => ?_
      refine ev_ops_k fun K121 hk121 => ?_
      refine evL_take 1 fun K122 hk122 => ?_
      simp only [shA, if_true, if_false, ite_true, ite_false, forall_const, ite_self, eq_self, reduceIte, reduceCtorEq, Nat.reduceEqDiff, Nat.reduceAdd, Nat.reduceLeDiff, Nat.reduceSub, Int.reduceToNat, Nat.reduceBEq, Nat.reduceMul, Nat.reduceLT, Int.reduceLE, Int.reduceLT, Nat.reduceMod, d1, h9, List.length_map, bne_self_eq_false, Int.reduceBEq, Int.reduceBNe, hpl, hql, List.getElem?_map, Int.toNat_natCast, d2, ha, q0, q3, c1, c4, c3]
      repeat (refine ⟨by first | assumption | omega | decide | (simp; done) | (simp_all; done) | (simp; omega), ?_⟩)
      refine hk122 _ ?_
      simp only [shA, if_true, if_false, ite_true, ite_false, forall_const, ite_self, eq_self, reduceIte, reduceCtorEq, Nat.reduceEqDiff, Nat.reduceAdd, Nat.reduceLeDiff, Nat.reduceSub, Int.reduceToNat, Nat.reduceBEq, Nat.reduceMul, Nat.reduceLT, Int.reduceLE, Int.reduceLT, Nat.reduceMod, d1, h9, List.length_map, bne_self_eq_false, Int.reduceBEq, Int.reduceBNe, hpl, hql, List.getElem?_map, Int.toNat_natCast, d2, ha, q0, q3, c1, c4, c3]
      repeat (refine ⟨by first | assumption | omega | decide | (simp; done) | (simp_all; done) | (simp; omega), ?_⟩)
      refine hk121 _ ?_
      refine hn120 (some ([0, 1, 2, 7, 9, 10, 11, 13, 58, 59, 60, 61, 62, 63, 64, 65, 66, 95, 96, 97, 100, 101, 102, 103, 104, 107, 108, 109, 110, 111], none)) _ ?_
      refine ev_seq_k fun K123 hn123 hr123 he123 => ?_
      refine ev_ops_k fun K124 hk124 => ?_
      refine evL_take 2 fun K125 hk125 => ?_
      simp only [shA, if_true, if_false, ite_true, ite_false, forall_const, ite_self, eq_self, reduceIte, reduceCtorEq, Nat.reduceEqDiff, Nat.reduceAdd, Nat.reduceLeDiff, Nat.reduceSub, Int.reduceToNat, Nat.reduceBEq, Nat.reduceMul, Nat.reduceLT, Int.reduceLE, Int.reduceLT, Nat.reduceMod, d1, h9, List.length_map, bne_self_eq_false, Int.reduceBEq, Int.reduceBNe, hpl, hql, List.getElem?_map, Int.toNat_natCast, d2, ha, q0, q3, c1, c4, c3]
      repeat (refine ⟨by first | assumption | omega | decide | (simp; done) | (simp_all; done) | (simp; omega), ?_⟩)
      refine hk125 _ ?_
      refine evL_take 3 fun K126 hk126 => ?_
      simp only [shA, if_true, if_false, ite_true, ite_false, forall_const, ite_self, eq_self, reduceIte, reduceCtorEq, Nat.reduceEqDiff, Nat.reduceAdd, Nat.reduceLeDiff, Nat.reduceSub, Int.reduceToNat, Nat.reduceBEq, Nat.reduceMul, Nat.reduceLT, Int.reduceLE, Int.reduceLT, Nat.reduceMod, d1, h9, List.length_map, bne_self_eq_false, Int.reduceBEq, Int.reduceBNe, hpl, hql, List.getElem?_map, Int.toNat_natCast, d2, ha, q0, q3, c1, c4, c3]
      repeat (refine ⟨by first | assumption | omega | decide | (simp; done) | (simp_all; done) | (simp; omega), ?_⟩)
      refine hk126 _ ?_
      refine evL_take 1 fun K127 hk127 => ?_
      simp only [shA, if_true, if_false, ite_true, ite_false, forall_const, ite_self, eq_self, reduceIte, reduceCtorEq, Nat.reduceEqDiff, Nat.reduceAdd, Nat.reduceLeDiff, Nat.reduceSub, Int.reduceToNat, Nat.reduceBEq, Nat.reduceMul, Nat.reduceLT, Int.reduceLE, Int.reduceLT, Nat.reduceMod, d1, h9, List.length_map, bne_self_eq_false, Int.reduceBEq, Int.reduceBNe, hpl, hql, List.getElem?_map, Int.toNat_natCast, d2, ha, q0, q3, c1, c4, c3]
      repeat (refine ⟨by first | assumption | omega | decide | (simp; done) | (simp_all; done) | (simp; omega), ?_⟩)
      refine hk127 _ ?_
      refine evL_take 1 fun K128 hk128 => ?_
      simp only [shA, if_true, if_false, ite_true, ite_false, forall_const, ite_self, eq_self, reduceIte, reduceCtorEq, Nat.reduceEqDiff, Nat.reduceAdd, Nat.reduceLeDiff, Nat.reduceSub, Int.reduceToNat, Nat.reduceBEq, Nat.reduceMul, Nat.reduceLT, Int.reduceLE, Int.reduceLT, Nat.reduceMod, d1, h9, List.length_map, bne_self_eq_false, Int.reduceBEq, Int.reduceBNe, hpl, hql, List.getElem?_map, Int.toNat_natCast, d2, ha, q0, q3, c1, c4, c3]
      repeat (refine ⟨by first | assumption | omega | decide | (simp; done) | (simp_all; done) | (simp; omega), ?_⟩)
      refine hk128 _ ?_
      refine evL_take 3 fun K129 hk129 => ?_
      simp only [shA, if_true, if_false, ite_true, ite_false, forall_const, ite_self, eq_self, reduceIte, reduceCtorEq, Nat.reduceEqDiff, Nat.reduceAdd, Nat.reduceLeDiff, Nat.reduceSub, Int.reduceToNat, Nat.reduceBEq, Nat.reduceMul, Nat.reduceLT, Int.reduceLE, Int.reduceLT, Nat.reduceMod, d1, h9, List.length_map, bne_self_eq_false, Int.reduceBEq, Int.reduceBNe, hpl, hql, List.getElem?_map, Int.toNat_natCast, d2, ha, q0, q3, c1, c4, c3]
      repeat (refine ⟨by first | assumption | omega | decide | (simp; done) | (simp_all; done) | (simp; omega), ?_⟩)
      refine hk129 _ ?_
      refine evL_take 1 fun K130 hk130 => ?_
      simp only [shA, if_true, if_false, ite_true, ite_false, forall_const, ite_self, eq_self, reduceIte, reduceCtorEq, Nat.reduceEqDiff, Nat.reduceAdd, Nat.reduceLeDiff, Nat.reduceSub, Int.reduceToNat, Nat.reduceBEq, Nat.reduceMul, Nat.reduceLT, Int.reduceLE, Int.reduceLT, Nat.reduceMod, d1, h9, List.length_map, bne_self_eq_false, Int.reduceBEq, Int.reduceBNe, hpl, hql, List.getElem?_map, Int.toNat_natCast, d2, ha, q0, q3, c1, c4, c3]
      repeat (refine ⟨by first | assumption | omega | decide | (simp; done) | (simp_all; done) | (simp; omega), ?_⟩)
      refine hk130 _ ?_
      simp only [shA, if_true, if_false, ite_true, ite_false, forall_const, ite_self, eq_self, reduceIte, reduceCtorEq, Nat.reduceEqDiff, Nat.reduceAdd, Nat.reduceLeDiff, Nat.reduceSub, Int.reduceToNat, Nat.reduceBEq, Nat.reduceMul, Nat.reduceLT, Int.reduceLE, Int.reduceLT, Nat.reduceMod, d1, h9, List.length_map, bne_self_eq_false, Int.reduceBEq, Int.reduceBNe, hpl, hql, List.getElem?_map, Int.toNat_natCast, d2, ha, q0, q3, c1, c4, c3]
      refine hk124 _ ?_
      refine hn123 (some ([0, 1, 2, 7, 9, 10, 11, 67, 95, 96, 97, 100, 101, 102, 103, 104, 107, 108, 109, 110, 111], none)) _ ?_
      refine ev_cond_k rfl (fun hc2 => ?_) (fun hx => absurd hx (by simp at hx))
      clear hc2
      refine ev_seq_k fun K131 hn131 hr131 he131 => ?_
      refine ev_ops_k fun K132 hk132 => ?_
      refine evL_take 1 fun K133 hk133 => ?_
      simp only [shA, if_true, if_false, ite_true, ite_false, forall_const, ite_self, eq_self, reduceIte, reduceCtorEq, Nat.reduceEqDiff, Nat.reduceAdd, Nat.reduceLeDiff, Nat.reduceSub, Int.reduceToNat, Nat.reduceBEq, Nat.reduceMul, Nat.reduceLT, Int.reduceLE, Int.reduceLT, Nat.reduceMod, d1, h9, List.length_map, bne_self_eq_false, Int.reduceBEq, Int.reduceBNe, hpl, hql, List.getElem?_map, Int.toNat_natCast, d2, ha, q0, q3, c1, c4, c3]
      repeat (refine ⟨by first | assumption | omega | decide | (simp; done) | (simp_all; done) | (simp; omega), ?_⟩)
      refine hk133 _ ?_
      refine evL_take 1 fun K134 hk134 => ?_
      simp only [shA, if_true, if_false, ite_true, ite_false, forall_const, ite_self, eq_self, reduceIte, reduceCtorEq, Nat.reduceEqDiff, Nat.reduceAdd, Nat.reduceLeDiff, Nat.reduceSub, Int.reduceToNat, Nat.reduceBEq, Nat.reduceMul, Nat.reduceLT, Int.reduceLE, Int.reduceLT, Nat.reduceMod, d1, h9, List.length_map, bne_self_eq_false, Int.reduceBEq, Int.reduceBNe, hpl, hql, List.getElem?_map, Int.toNat_natCast, d2, ha, q0, q3, c1, c4, c3]
      repeat (refine ⟨by first | assumption | omega | decide | (simp; done) | (simp_all; done) | (simp; omega), ?_⟩)
      refine hk134 _ ?_
      refine evL_take 1 fun K135 hk135 => ?_
      simp only [shA, if_true, if_false, ite_true, ite_false, forall_const, ite_self, eq_self, reduceIte, reduceCtorEq, Nat.reduceEqDiff, Nat.reduceAdd, Nat.reduceLeDiff, Nat.reduceSub, Int.reduceToNat, Nat.reduceBEq, Nat.reduceMul, Nat.reduceLT, Int.reduceLE, Int.reduceLT, Nat.reduceMod, d1, h9, List.length_map, bne_self_eq_false, Int.reduceBEq, Int.reduceBNe, hpl, hql, List.getElem?_map, Int.toNat_natCast, d2, ha, q0, q3, c1, c4, c3]
      refine Or.inl (Or.inl ⟨_, hd2, ?_⟩)
      refine hk135 _ ?_
      refine evL_take 5 fun K136 hk136 => ?_
      simp only [shA, if_true, if_false, ite_true, ite_false, forall_const, ite_self, eq_self, reduceIte, reduceCtorEq, Nat.reduceEqDiff, Nat.reduceAdd, Nat.reduceLeDiff, Nat.reduceSub, Int.reduceToNat, Nat.reduceBEq, Nat.reduceMul, Nat.reduceLT, Int.reduceLE, Int.reduceLT, Nat.reduceMod, d1, h9, List.length_map, bne_self_eq_false, Int.reduceBEq, Int.reduceBNe, hpl, hql, List.getElem?_map, Int.toNat_natCast, d2, ha, q0, q3, c1, c4, c3]
      repeat (refine ⟨by first | assumption | omega | decide | (simp; done) | (simp_all; done) | (simp; omega), ?_⟩)
      refine hk136 _ ?_
      simp only [shA, if_true, if_false, ite_true, ite_false, forall_const, ite_self, eq_self, reduceIte, reduceCtorEq, Nat.reduceEqDiff, Nat.reduceAdd, Nat.reduceLeDiff, Nat.reduceSub, Int.reduceToNat, Nat.reduceBEq, Nat.reduceMul, Nat.reduceLT, Int.reduceLE, Int.reduceLT, Nat.reduceMod, d1, h9, List.length_map, bne_self_eq_false, Int.reduceBEq, Int.reduceBNe, hpl, hql, List.getElem?_map, Int.toNat_natCast, d2, ha, q0, q3, c1, c4, c3]
      refine hk132 _ ?_
      refine hn131 (some ([0, 1, 2, 7, 9, 10, 14, 95, 96, 97, 100, 101, 102, 103, 104, 107, 108, 109, 110, 111], none)) _ ?_
      refine ev_ops_k fun K137 hk137 => ?_
      refine evL_take 1 fun K138 hk138 => ?_
      simp only [shA, if_true, if_false, ite_true, ite_false, forall_const, ite_self, eq_self, reduceIte, reduceCtorEq, Nat.reduceEqDiff, Nat.reduceAdd, Nat.reduceLeDiff, Nat.reduceSub, Int.reduceToNat, Nat.reduceBEq, Nat.reduceMul, Nat.reduceLT, Int.reduceLE, Int.reduceLT, Nat.reduceMod, d1, h9, List.length_map, bne_self_eq_false, Int.reduceBEq, Int.reduceBNe, hpl, hql, List.getElem?_map, Int.toNat_natCast, d2, ha, q0, q3, c1, c4, c3]
      repeat (refine ⟨by first | assumption | omega | decide | (simp; done) | (simp_all; done) | (simp; omega), ?_⟩)
      refine hk138 _ ?_
      simp only [shA, if_true, if_false, ite_true, ite_false, forall_const, ite_self, eq_self, reduceIte, reduceCtorEq, Nat.reduceEqDiff, Nat.reduceAdd, Nat.reduceLeDiff, Nat.reduceSub, Int.reduceToNat, Nat.reduceBEq, Nat.reduceMul, Nat.reduceLT, Int.reduceLE, Int.reduceLT, Nat.reduceMod, d1, h9, List.length_map, bne_self_eq_false, Int.reduceBEq, Int.reduceBNe, hpl, hql, List.getElem?_map, Int.toNat_natCast, d2, ha, q0, q3, c1, c4, c3]
      repeat (refine ⟨by first | assumption | omega | decide | (simp; done) | (simp_all; done) | (simp; omega), ?_⟩)
      refine hk137 _ ?_
      refine hn109 _ ?_
      refine hn108 (some ([0, 1, 2, 7, 9, 10, 95, 96, 97, 100, 101, 102, 103, 104, 107, 108, 109, 110, 111], none)) _ ?_
      refine ev_ops_k fun K139 hk139 => ?_
      refine evL_take 2 fun K140 hk140 => ?_
      simp only [shA, if_true, if_false, ite_true, ite_false, forall_const, ite_self, eq_self, reduceIte, reduceCtorEq, Nat.reduceEqDiff, Nat.reduceAdd, Nat.reduceLeDiff, Nat.reduceSub, Int.reduceToNat, Nat.reduceBEq, Nat.reduceMul, Nat.reduceLT, Int.reduceLE, Int.reduceLT, Nat.reduceMod, d1, h9, List.length_map, bne_self_eq_false, Int.reduceBEq, Int.reduceBNe, hpl, hql, List.getElem?_map, Int.toNat_natCast, d2, ha, q0, q3, c1, c4, c3]
      repeat (refine ⟨by first | assumption | omega | decide | (simp; done) | (simp_all; done) | (simp; omega), ?_⟩)
      refine hk140 _ ?_
      simp only [shA, if_true, if_false, ite_true, ite_false, forall_const, ite_self, eq_self, reduceIte, reduceCtorEq, Nat.reduceEqDiff, Nat.reduceAdd, Nat.reduceLeDiff, Nat.reduceSub, Int.reduceToNat, Nat.reduceBEq, Nat.reduceMul, Nat.reduceLT, Int.reduceLE, Int.reduceLT, Nat.reduceMod, d1, h9, List.length_map, bne_self_eq_false, Int.reduceBEq, Int.reduceBNe, hpl, hql, List.getElem?_map, Int.toNat_natCast, d2, ha, q0, q3, c1, c4, c3]
      refine hk139 _ ?_
      refine hn21 (l.length - (n + 1)) (some ([0, 1, 2, 7, 9, 10, 95, 96, 97, 100, 101, 102, 103, 104, 107, 108, 109, 110, 111], some ([0, 1], 2))) _ ?_ ?_
      all_goals try simp only [St.casts, St.cast, nilS, St.put, St.newO, St.setO, delA, List.getElem?_cons_zero, List.getElem?_cons_succ, List.set_cons_zero, List.set_cons_succ, getA, Nat.reduceEqDiff, reduceCtorEq, keepT, renT, renSh, renC, renO, renOb, idxN, List.map_cons, List.map_nil, List.length_cons, List.length_nil, Nat.reduceAdd, Nat.zero_add, decide_true, St.keep, refsT, refsO, refsL, refsC, refsOk, decide_eq_true_eq, List.contains_cons, List.contains_nil, Bool.or_false, Bool.or_true, Bool.true_or, Bool.false_or, Bool.and_true, Bool.true_and, beq_self_eq_true, Nat.reduceBEq, reduceIte, Nat.blt_eq, Nat.reduceLT, decide_true, Nat.reduceLeDiff, Bool.false_eq_true, Bool.and_eq_true, and_self, true_and, and_true]
      · omega
      · refine ⟨n + 1, by omega, by omega, ?_⟩
        rw [runA_succ ha, hap]
    · skip
      obtain ⟨c1, c2, c3⟩ := hc
      have d2 : (n : Int) < (l.length : Int) := by have := (List.getElem?_eq_some_iff.1 ha).1; omega
      have hkd := hl a (List.mem_of_getElem? ha)
      have q0 : a.kind.tmod 3 = a.kind % 3 := Int.tmod_eq_emod_of_nonneg hkd.1
      have q3 : IntKind.i64.wrap ((n : Int) + 1) = ((n + 1 : Nat) : Int) := by rw [IntKind.wrap_i64]; omega
      have hap : apartM (runA w l n).1 (runA w l n).2 a = (runA w l n).2 := if_neg (fun h => h.2.elim c2 c3)
      have c4 : (a.kind % 3 == 2) = false := by simpa using c2
      have hd1 := ok_l5done _ n a gx (by omega) hkd
      refine ev_seq_k fun K141 hn141 hr141 he141 => ?_
      refine ev_seq_k fun K142 hn142 hr142 he142 => ?_
      refine ev_ops_k fun K143 hk143 => ?_
      simp only [shA, if_true, if_false, ite_true, ite_false, forall_const, ite_self, eq_self, reduceIte, reduceCtorEq, Nat.reduceEqDiff, Nat.reduceAdd, Nat.reduceLeDiff, Nat.reduceSub, Int.reduceToNat, Nat.reduceBEq, Nat.reduceMul, Nat.reduceLT, Int.reduceLE, Int.reduceLT, Nat.reduceMod, d1, h9, List.length_map, bne_self_eq_false, Int.reduceBEq, Int.reduceBNe, hpl, hql, List.getElem?_map, Int.toNat_natCast, d2, ha, q0, q3, c1, c4, c3]
      repeat (refine ⟨by first | assumption | omega | decide | (simp; done) | (simp_all; done) | (simp; omega), ?_⟩)
      refine hk143 _ ?_
      refine hn142 (some ([0, 1, 2, 7, 9, 10, 41, 58, 59, 60, 61, 62, 63, 64, 65, 66, 95, 96, 97, 100, 101, 102, 103, 104, 107, 108, 109, 110, 111], none)) _ ?_
      refine ev_cond_k rfl (fun hc1 => ?_) (fun hx => absurd hx (by simp at hx))
      clear hc1
      refine hn141 (some ([0, 1, 2, 7, 9, 10, 58, 59, 60, 61, 62, 63, 64, 65, 66, 95, 96, 97, 100, 101, 102, 103, 104, 107, 108, 109, 110, 111], none)) _ ?_
      refine ev_seq_k fun K144 hn144 hr144 he144 => ?_
      refine ev_block_k fun K145 hn145 hx145 hr145 he145 => ?_
      refine ev_seq_k fun K146 hn146 hr146 he146 => ?_
      refine ev_ops_k fun K147 hk147 => ?_
      refine evL_take 3 fun K148 hk148 => ?_
      simp only [shA, if_true, if_false, ite_true, ite_false, forall_const, ite_self, eq_self, reduceIte, reduceCtorEq, Nat.reduceEqDiff, Nat.reduceAdd, Nat.reduceLeDiff, Nat.reduceSub, Int.reduceToNat, Nat.reduceBEq, Nat.reduceMul, Nat.reduceLT, Int.reduceLE, Int.reduceLT, Nat.reduceMod, d1, h9, List.length_map, bne_self_eq_false, Int.reduceBEq, Int.reduceBNe, hpl, hql, List.getElem?_map, Int.toNat_natCast, d2, ha, q0, q3, c1, c4, c3]
      repeat (refine ⟨by first | assumption | omega | decide | (simp; done) | (simp_all; done) | (simp; omega), ?_⟩)
      refine hk148 _ ?_
      refine evL_take 1 fun K149 hk149 => ?_
      simp only [shA, if_true, if_false, ite_true, ite_false, forall_const, ite_self, eq_self, reduceIte, reduceCtorEq, Nat.reduceEqDiff, Nat.reduceAdd, Nat.reduceLeDiff, Nat.reduceSub, Int.reduceToNat, Nat.reduceBEq, Nat.reduceMul, Nat.reduceLT, Int.reduceLE, Int.reduceLT, Nat.reduceMod, d1, h9, List.length_map, bne_self_eq_false, Int.reduceBEq, Int.reduceBNe, hpl, hql, List.getElem?_map, Int.toNat_natCast, d2, ha, q0, q3, c1, c4, c3]
      repeat (refine ⟨by first | assumption | omega | decide | (simp; done) | (simp_all; done) | (simp; omega), ?_⟩)
      refine hk149 _ ?_
      simp only [shA, if_true, if_false, ite_true, ite_false, forall_const, ite_self, eq_self, reduceIte, reduceCtorEq, Nat.reduceEqDiff, Nat.reduceAdd, Nat.reduceLeDiff, Nat.reduceSub, Int.reduceToNat, Nat.reduceBEq, Nat.reduceMul, Nat.reduceLT, Int.reduceLE, Int.reduceLT, Nat.reduceMod, d1, h9, List.length_map, bne_self_eq_false, Int.reduceBEq, Int.reduceBNe, hpl, hql, List.getElem?_map, Int.toNat_natCast, d2, ha, q0, q3, c1, c4, c3]
      repeat (refine ⟨by first | assumption | omega | decide | (simp; done) | (simp_all; done) | (simp; omega), ?_⟩)
      refine hk147 _ ?_
      refine hn146 (some ([0, 1, 2, 7, 9, 10, 11, 58, 59, 60, 61, 62, 63, 64, 65, 66, 95, 96, 97, 100, 101, 102, 103, 104, 107, 108, 109, 110, 111], none)) _ ?_
      refine ev_seq_k fun K150 hn150 hr150 he150 => ?_
      refine ev_ops_k fun K151 hk151 => ?_
      refine evL_take 1 fun K152 hk152 => ?_
      simp only [shA, if_true, if_false, ite_true, ite_false, forall_const, ite_self, eq_self, reduceIte, reduceCtorEq, Nat.reduceEqDiff, Nat.reduceAdd, Nat.reduceLeDiff, Nat.reduceSub, Int.reduceToNat, Nat.reduceBEq, Nat.reduceMul, Nat.reduceLT, Int.reduceLE, Int.reduceLT, Nat.reduceMod, d1, h9, List.length_map, bne_self_eq_false, Int.reduceBEq, Int.reduceBNe, hpl, hql, List.getElem?_map, Int.toNat_natCast, d2, ha, q0, q3, c1, c4, c3]
      repeat (refine ⟨by first | assumption | omega | decide | (simp; done) | (simp_all; done) | (simp; omega), ?_⟩)
      refine hk152 _ ?_
      refine evL_take 1 fun K153 hk153 => ?_
      simp only [shA, if_true, if_false, ite_true, ite_false, forall_const, ite_self, eq_self, reduceIte, reduceCtorEq, Nat.reduceEqDiff, Nat.reduceAdd, Nat.reduceLeDiff, Nat.reduceSub, Int.reduceToNat, Nat.reduceBEq, Nat.reduceMul, Nat.reduceLT, Int.reduceLE, Int.reduceLT, Nat.reduceMod, d1, h9, List.length_map, bne_self_eq_false, Int.reduceBEq, Int.reduceBNe, hpl, hql, List.getElem?_map, Int.toNat_natCast, d2, ha, q0, q3, c1, c4, c3]
      repeat (refine ⟨by first | assumption | omega | decide | (simp; done) | (simp_all; done) | (simp; omega), ?_⟩)
      refine hk153 _ ?_
      refine evL_take 1 fun K154 hk154 => ?_
      simp only [shA, if_true, if_false, ite_true, ite_false, forall_const, ite_self, eq_self, reduceIte, reduceCtorEq, Nat.reduceEqDiff, Nat.reduceAdd, Nat.reduceLeDiff, Nat.reduceSub, Int.reduceToNat, Nat.reduceBEq, Nat.reduceMul, Nat.reduceLT, Int.reduceLE, Int.reduceLT, Nat.reduceMod, d1, h9, List.length_map, bne_self_eq_false, Int.reduceBEq, Int.reduceBNe, hpl, hql, List.getElem?_map, Int.toNat_natCast, d2, ha, q0, q3, c1, c4, c3]
      refine Or.inl (Or.inl ⟨_, hd1, ?_⟩)
      refine hk154 _ ?_
      refine evL_take 5 fun K155 hk155 => ?_
      simp only [shA, if_true, if_false, ite_true, ite_false, forall_const, ite_self, eq_self, reduceIte, reduceCtorEq, Nat.reduceEqDiff, Nat.reduceAdd, Nat.reduceLeDiff, Nat.reduceSub, Int.reduceToNat, Nat.reduceBEq, Nat.reduceMul, Nat.reduceLT, Int.reduceLE, Int.reduceLT, Nat.reduceMod, d1, h9, List.length_map, bne_self_eq_false, Int.reduceBEq, Int.reduceBNe, hpl, hql, List.getElem?_map, Int.toNat_natCast, d2, ha, q0, q3, c1, c4, c3]
      repeat (refine ⟨by first | assumption | omega | decide | (simp; done) | (simp_all; done) | (simp; omega), ?_⟩)
      refine hk155 _ ?_
      simp only [shA, if_true, if_false, ite_true, ite_false, forall_const, ite_self, eq_self, reduceIte, reduceCtorEq, Nat.reduceEqDiff, Nat.reduceAdd, Nat.reduceLeDiff, Nat.reduceSub, Int.reduceToNat, Nat.reduceBEq, Nat.reduceMul, Nat.reduceLT, Int.reduceLE, Int.reduceLT, Nat.reduceMod, d1, h9, List.length_map, bne_self_eq_false, Int.reduceBEq, Int.reduceBNe, hpl, hql, List.getElem?_map, Int.toNat_natCast, d2, ha, q0, q3, c1, c4, c3]
      refine hk151 _ ?_
      refine hn150 (some ([0, 1, 2, 7, 9, 10, 11, 12, 13, 58, 59, 60, 61, 62, 63, 64, 65, 66, 95, 96, 97, 100, 101, 102, 103, 104, 107, 108, 109, 110, 111], none)) _ ?_
      refine ev_seq_k fun K156 hn156 hr156 he156 => ?_
      refine ev_ops_k fun K157 hk157 => ?_
      refine evL_take 1 fun K158 hk158 => ?_
      simp only [shA, if_true, if_false, ite_true, ite_false, forall_const, ite_self, eq_self, reduceIte, reduceCtorEq, Nat.reduceEqDiff, Nat.reduceAdd, Nat.reduceLeDiff, Nat.reduceSub, Int.reduceToNat, Nat.reduceBEq, Nat.reduceMul, Nat.reduceLT, Int.reduceLE, Int.reduceLT, Nat.reduceMod, d1, h9, List.length_map, bne_self_eq_false, Int.reduceBEq, Int.reduceBNe, hpl, hql, List.getElem?_map, Int.toNat_natCast, d2, ha, q0, q3, c1, c4, c3]
      repeat (refine ⟨by first | assumption | omega | decide | (simp; done) | (simp_all; done) | (simp; omega), ?_⟩)
      refine hk158 _ ?_
      simp only [shA, if_true, if_false, ite_true, ite_false, forall_const, ite_self, eq_self, reduceIte, reduceCtorEq, Nat.reduceEqDiff, Nat.reduceAdd, Nat.reduceLeDiff, Nat.reduceSub, Int.reduceToNat, Nat.reduceBEq, Nat.reduceMul, Nat.reduceLT, Int.reduceLE, Int.reduceLT, Nat.reduceMod, d1, h9, List.length_map, bne_self_eq_false, Int.reduceBEq, Int.reduceBNe, hpl, hql, List.getElem?_map, Int.toNat_natCast, d2, ha, q0, q3, c1, c4, c3]
      repeat (refine ⟨by first | assumption | omega | decide | (simp; done) | (simp_all; done) | (simp; omega), ?_⟩)
      refine hk157 _ ?_
      refine hn156 (some ([0, 1, 2, 7, 9, 10, 11, 13, 58, 59, 60, 61, 62, 63, 64, 65, 66, 95, 96, 97, 100, 101, 102, 103, 104, 107, 108, 109, 110, 111], none)) _ ?_
      refine ev_seq_k fun K159 hn159 hr159 he159 => ?_
      refine ev_ops_k fun K160 hk160 => ?_
      refine evL_take 2 fun K161 hk161 => ?_
      simp only [shA, if_true, if_false, ite_true, ite_false, forall_const, ite_self, eq_self, reduceIte, reduceCtorEq, Nat.reduceEqDiff, Nat.reduceAdd, Nat.reduceLeDiff, Nat.reduceSub, Int.reduceToNat, Nat.reduceBEq, Nat.reduceMul, Nat.reduceLT, Int.reduceLE, Int.reduceLT, Nat.reduceMod, d1, h9, List.length_map, bne_self_eq_false, Int.reduceBEq, Int.reduceBNe, hpl, hql, List.getElem?_map, Int.toNat_natCast, d2, ha, q0, q3, c1, c4, c3]
      repeat (refine ⟨by first | assumption | omega | decide | (simp; done) | (simp_all; done) | (simp; omega), ?_⟩)
      refine hk161 _ ?_
      refine evL_take 3 fun K162 hk162 => ?_
      simp only [shA, if_true, if_false, ite_true, ite_false, forall_const, ite_self, eq_self, reduceIte, reduceCtorEq, Nat.reduceEqDiff, Nat.reduceAdd, Nat.reduceLeDiff, Nat.reduceSub, Int.reduceToNat, Nat.reduceBEq, Nat.reduceMul, Nat.reduceLT, Int.reduceLE, Int.reduceLT, Nat.reduceMod, d1, h9, List.length_map, bne_self_eq_false, Int.reduceBEq, Int.reduceBNe, hpl, hql, List.getElem?_map, Int.toNat_natCast, d2, ha, q0, q3, c1, c4, c3]
      repeat (refine ⟨by first | assumption | omega | decide | (simp; done) | (simp_all; done) | (simp; omega), ?_⟩)
      refine hk162 _ ?_
      refine evL_take 1 fun K163 hk163 => ?_
      simp only [shA, if_true, if_false, ite_true, ite_false, forall_const, ite_self, eq_self, reduceIte, reduceCtorEq, Nat.reduceEqDiff, Nat.reduceAdd, Nat.reduceLeDiff, Nat.reduceSub, Int.reduceToNat, Nat.reduceBEq, Nat.reduceMul, Nat.reduceLT, Int.reduceLE, Int.reduceLT, Nat.reduceMod, d1, h9, List.length_map, bne_self_eq_false, Int.reduceBEq, Int.reduceBNe, hpl, hql, List.getElem?_map, Int.toNat_natCast, d2, ha, q0, q3, c1, c4, c3]
      repeat (refine ⟨by first | assumption | omega | decide | (simp; done) | (simp_all; done) | (simp; omega), ?_⟩)
      refine hk163 _ ?_
      refine evL_take 1 fun K164 hk164 => ?_
      simp only [shA, if_true, if_false, ite_true, ite_false, forall_const, ite_self, eq_self, reduceIte, reduceCtorEq, Nat.reduceEqDiff, Nat.reduceAdd, Nat.reduceLeDiff, Nat.reduceSub, Int.reduceToNat, Nat.reduceBEq, Nat.reduceMul, Nat.reduceLT, Int.reduceLE, Int.reduceLT, Nat.reduceMod, d1, h9, List.length_map, bne_self_eq_false, Int.reduceBEq, Int.reduceBNe, hpl, hql, List.getElem?_map, Int.toNat_natCast, d2, ha, q0, q3, c1, c4, c3]
      repeat (refine ⟨by first | assumption | omega | decide | (simp; done) | (simp_all; done) | (simp; omega), ?_⟩)
      refine hk164 _ ?_
      refine evL_take 3 fun K165 hk165 => ?_
      simp only [shA, if_true, if_false, ite_true, ite_false, forall_const, ite_self, eq_self, reduceIte, reduceCtorEq, Nat.reduceEqDiff, Nat.reduceAdd, Nat.reduceLeDiff, Nat.reduceSub, Int.reduceToNat, Nat.reduceBEq, Nat.reduceMul, Nat.reduceLT, Int.reduceLE, Int.reduceLT, Nat.reduceMod, d1, h9, List.length_map, bne_self_eq_false, Int.reduceBEq, Int.reduceBNe, hpl, hql, List.getElem?_map, Int.toNat_natCast, d2, ha, q0, q3, c1, c4, c3]
      repeat (refine ⟨by first | assumption | omega | decide | (simp; done) | (simp_all; done) | (simp; omega), ?_⟩)
      refine hk165 _ ?_
      refine evL_take 1 fun K166 hk166 => ?_
      simp only [shA, if_true, if_false, ite_true, ite_false, forall_const, ite_self, eq_self, reduceIte, reduceCtorEq, Nat.reduceEqDiff, Nat.reduceAdd, Nat.reduceLeDiff, Nat.reduceSub, Int.reduceToNat, Nat.reduceBEq, Nat.reduceMul, Nat.reduceLT, Int.reduceLE, Int.reduceLT, Nat.reduceMod, d1, h9, List.length_map, bne_self_eq_false, Int.reduceBEq, Int.reduceBNe, hpl, hql, List.getElem?_map, Int.toNat_natCast, d2, ha, q0, q3, c1, c4, c3]
      repeat (refine ⟨by first | assumption | omega | decide | (simp; done) | (simp_all; done) | (simp; omega), ?_⟩)
      refine hk166 _ ?_
      simp only [shA, if_true, if_false, ite_true, ite_false, forall_const, ite_self, eq_self, reduceIte, reduceCtorEq, Nat.reduceEqDiff, Nat.reduceAdd, Nat.reduceLeDiff, Nat.reduceSub, Int.reduceToNat, Nat.reduceBEq, Nat.reduceMul, Nat.reduceLT, Int.reduceLE, Int.reduceLT, Nat.reduceMod, d1, h9, List.length_map, bne_self_eq_false, Int.reduceBEq, Int.reduceBNe, hpl, hql, List.getElem?_map, Int.toNat_natCast, d2, ha, q0, q3, c1, c4, c3]
      refine hk160 _ ?_
      refine hn159 (some ([0, 1, 2, 7, 9, 10, 11, 67, 95, 96, 97, 100, 101, 102, 103, 104, 107, 108, 109, 110, 111], none)) _ ?_
      refine ev_cond_k rfl (fun hx => absurd hx (by simp at hx)) (fun hc2 => ?_)
      clear hc2
      refine hn145 _ ?_
      refine hn144 (some ([0, 1, 2, 7, 9, 10, 95, 96, 97, 100, 101, 102, 103, 104, 107, 108, 109, 110, 111], none)) _ ?_
      refine ev_ops_k fun K167 hk167 => ?_
      refine evL_take 2 fun K168 hk168 => ?_
      simp only [shA, if_true, if_false, ite_true, ite_false, forall_const, ite_self, eq_self, reduceIte, reduceCtorEq, Nat.reduceEqDiff, Nat.reduceAdd, Nat.reduceLeDiff, Nat.reduceSub, Int.reduceToNat, Nat.reduceBEq, Nat.reduceMul, Nat.reduceLT, Int.reduceLE, Int.reduceLT, Nat.reduceMod, d1, h9, List.length_map, bne_self_eq_false, Int.reduceBEq, Int.reduceBNe, hpl, hql, List.getElem?_map, Int.toNat_natCast, d2, ha, q0, q3, c1, c4, c3]
      repeat (refine ⟨by first | assumption | omega | decide | (simp; done) | (simp_all; done) | (simp; omega), ?_⟩)
      refine hk168 _ ?_
      simp only [shA, if_true, if_false, ite_true, ite_false, forall_const, ite_self, eq_self, reduceIte, reduceCtorEq, Nat.reduceEqDiff, Nat.reduceAdd, Nat.reduceLeDiff, Nat.reduceSub, Int.reduceToNat, Nat.reduceBEq, Nat.reduceMul, Nat.reduceLT, Int.reduceLE, Int.reduceLT, Nat.reduceMod, d1, h9, List.length_map, bne_self_eq_false, Int.reduceBEq, Int.reduceBNe, hpl, hql, List.getElem?_map, Int.toNat_natCast, d2, ha, q0, q3, c1, c4, c3]
      refine hk167 _ ?_
      refine hn21 (l.length - (n + 1)) (some ([0, 1, 2, 7, 9, 10, 95, 96, 97, 100, 101, 102, 103, 104, 107, 108, 109, 110, 111], some ([0, 1], 2))) _ ?_ ?_
      all_goals try simp only [St.casts, St.cast, nilS, St.put, St.newO, St.setO, delA, List.getElem?_cons_zero, List.getElem?_cons_succ, List.set_cons_zero, List.set_cons_succ, getA, Nat.reduceEqDiff, reduceCtorEq, keepT, renT, renSh, renC, renO, renOb, idxN, List.map_cons, List.map_nil, List.length_cons, List.length_nil, Nat.reduceAdd, Nat.zero_add, decide_true, St.keep, refsT, refsO, refsL, refsC, refsOk, decide_eq_true_eq, List.contains_cons, List.contains_nil, Bool.or_false, Bool.or_true, Bool.true_or, Bool.false_or, Bool.and_true, Bool.true_and, beq_self_eq_true, Nat.reduceBEq, reduceIte, Nat.blt_eq, Nat.reduceLT, decide_true, Nat.reduceLeDiff, Bool.false_eq_true, Bool.and_eq_true, and_self, true_and, and_true]
      · omega
      · refine ⟨n + 1, by omega, by omega, ?_⟩
        rw [runA_succ ha, hap]
    · skip
      have d2 : (n : Int) < (l.length : Int) := by have := (List.getElem?_eq_some_iff.1 ha).1; omega
      have hkd := hl a (List.mem_of_getElem? ha)
      have q3 : IntKind.i64.wrap ((n : Int) + 1) = ((n + 1 : Nat) : Int) := by rw [IntKind.wrap_i64]; omega
      have hap : apartM (runA w l n).1 (runA w l n).2 a = (runA w l n).2 := if_neg (fun h => hc h.1)
      have c4 : ((doneM (runA w l n).1 a).2 == 0) = false := by simpa using hc
      have hd1 := ok_l5done _ n a gx (by omega) hkd
      refine ev_seq_k fun K169 hn169 hr169 he169 => ?_
      refine ev_seq_k fun K170 hn170 hr170 he170 => ?_
      refine ev_ops_k fun K171 hk171 => ?_
      simp only [shA, if_true, if_false, ite_true, ite_false, forall_const, ite_self, eq_self, reduceIte, reduceCtorEq, Nat.reduceEqDiff, Nat.reduceAdd, Nat.reduceLeDiff, Nat.reduceSub, Int.reduceToNat, Nat.reduceBEq, Nat.reduceMul, Nat.reduceLT, Int.reduceLE, Int.reduceLT, Nat.reduceMod, d1, h9, List.length_map, bne_self_eq_false, Int.reduceBEq, Int.reduceBNe, hpl, hql, List.getElem?_map, Int.toNat_natCast, d2, ha, q3, c4]
      repeat (refine ⟨by first | assumption | omega | decide | (simp; done) | (simp_all; done) | (simp; omega), ?_⟩)
      refine hk171 _ ?_
      refine hn170 (some ([0, 1, 2, 7, 9, 10, 41, 58, 59, 60, 61, 62, 63, 64, 65, 66, 95, 96, 97, 100, 101, 102, 103, 104, 107, 108, 109, 110, 111], none)) _ ?_
      refine ev_cond_k rfl (fun hc1 => ?_) (fun hx => absurd hx (by simp at hx))
      clear hc1
      refine hn169 (some ([0, 1, 2, 7, 9, 10, 58, 59, 60, 61, 62, 63, 64, 65, 66, 95, 96, 97, 100, 101, 102, 103, 104, 107, 108, 109, 110, 111], none)) _ ?_
      refine ev_seq_k fun K172 hn172 hr172 he172 => ?_
      refine ev_block_k fun K173 hn173 hx173 hr173 he173 => ?_
      refine ev_seq_k fun K174 hn174 hr174 he174 => ?_
      refine ev_ops_k fun K175 hk175 => ?_
      refine evL_take 3 fun K176 hk176 => ?_
      simp only [shA, if_true, if_false, ite_true, ite_false, forall_const, ite_self, eq_self, reduceIte, reduceCtorEq, Nat.reduceEqDiff, Nat.reduceAdd, Nat.reduceLeDiff, Nat.reduceSub, Int.reduceToNat, Nat.reduceBEq, Nat.reduceMul, Nat.reduceLT, Int.reduceLE, Int.reduceLT, Nat.reduceMod, d1, h9, List.length_map, bne_self_eq_false, Int.reduceBEq, Int.reduceBNe, hpl, hql, List.getElem?_map, Int.toNat_natCast, d2, ha, q3, c4]
      repeat (refine ⟨by first | assumption | omega | decide | (simp; done) | (simp_all; done) | (simp; omega), ?_⟩)
      refine hk176 _ ?_
      refine evL_take 1 fun K177 hk177 => ?_
      simp only [shA, if_true, if_false, ite_true, ite_false, forall_const, ite_self, eq_self, reduceIte, reduceCtorEq, Nat.reduceEqDiff, Nat.reduceAdd, Nat.reduceLeDiff, Nat.reduceSub, Int.reduceToNat, Nat.reduceBEq, Nat.reduceMul, Nat.reduceLT, Int.reduceLE, Int.reduceLT, Nat.reduceMod, d1, h9, List.length_map, bne_self_eq_false, Int.reduceBEq, Int.reduceBNe, hpl, hql, List.getElem?_map, Int.toNat_natCast, d2, ha, q3, c4]
      repeat (refine ⟨by first | assumption | omega | decide | (simp; done) | (simp_all; done) | (simp; omega), ?_⟩)
      refine hk177 _ ?_
      simp only [shA, if_true, if_false, ite_true, ite_false, forall_const, ite_self, eq_self, reduceIte, reduceCtorEq, Nat.reduceEqDiff, Nat.reduceAdd, Nat.reduceLeDiff, Nat.reduceSub, Int.reduceToNat, Nat.reduceBEq, Nat.reduceMul, Nat.reduceLT, Int.reduceLE, Int.reduceLT, Nat.reduceMod, d1, h9, List.length_map, bne_self_eq_false, Int.reduceBEq, Int.reduceBNe, hpl, hql, List.getElem?_map, Int.toNat_natCast, d2, ha, q3, c4]
      repeat (refine ⟨by first | assumption | omega | decide | (simp; done) | (simp_all; done) | (simp; omega), ?_⟩)
      refine hk175 _ ?_
      refine hn174 (some ([0, 1, 2, 7, 9, 10, 11, 58, 59, 60, 61, 62, 63, 64, 65, 66, 95, 96, 97, 100, 101, 102, 103, 104, 107, 108, 109, 110, 111], none)) _ ?_
      refine ev_seq_k fun K178 hn178 hr178 he178 => ?_
      refine ev_ops_k fun K179 hk179 => ?_
      refine evL_take 1 fun K180 hk180 => ?_
      simp only [shA, if_true, if_false, ite_true, ite_false, forall_const, ite_self, eq_self, reduceIte, reduceCtorEq, Nat.reduceEqDiff, Nat.reduceAdd, Nat.reduceLeDiff, Nat.reduceSub, Int.reduceToNat, Nat.reduceBEq, Nat.reduceMul, Nat.reduceLT, Int.reduceLE, Int.reduceLT, Nat.reduceMod, d1, h9, List.length_map, bne_self_eq_false, Int.reduceBEq, Int.reduceBNe, hpl, hql, List.getElem?_map, Int.toNat_natCast, d2, ha, q3, c4]
      repeat (refine ⟨by first | assumption | omega | decide | (simp; done) | (simp_all; done) | (simp; omega), ?_⟩)
      refine hk180 _ ?_
      refine evL_take 1 fun K181 hk181 => ?_
      simp only [shA, if_true, if_false, ite_true, ite_false, forall_const, ite_self, eq_self, reduceIte, reduceCtorEq, Nat.reduceEqDiff, Nat.reduceAdd, Nat.reduceLeDiff, Nat.reduceSub, Int.reduceToNat, Nat.reduceBEq, Nat.reduceMul, Nat.reduceLT, Int.reduceLE, Int.reduceLT, Nat.reduceMod, d1, h9, List.length_map, bne_self_eq_false, Int.reduceBEq, Int.reduceBNe, hpl, hql, List.getElem?_map, Int.toNat_natCast, d2, ha, q3, c4]
      repeat (refine ⟨by first | assumption | omega | decide | (simp; done) | (simp_all; done) | (simp; omega), ?_⟩)
      refine hk181 _ ?_
      refine evL_take 1 fun K182 hk182 => ?_
      simp only [shA, if_true, if_false, ite_true, ite_false, forall_const, ite_self, eq_self, reduceIte, reduceCtorEq, Nat.reduceEqDiff, Nat.reduceAdd, Nat.reduceLeDiff, Nat.reduceSub, Int.reduceToNat, Nat.reduceBEq, Nat.reduceMul, Nat.reduceLT, Int.reduceLE, Int.reduceLT, Nat.reduceMod, d1, h9, List.length_map, bne_self_eq_false, Int.reduceBEq, Int.reduceBNe, hpl, hql, List.getElem?_map, Int.toNat_natCast, d2, ha, q3, c4]
      refine Or.inl (Or.inl ⟨_, hd1, ?_⟩)
      refine hk182 _ ?_
      refine evL_take 5 fun K183 hk183 => ?_
      simp only [shA, if_true, if_false, ite_true, ite_false, forall_const, ite_self, eq_self, reduceIte, reduceCtorEq, Nat.reduceEqDiff, Nat.reduceAdd, Nat.reduceLeDiff, Nat.reduceSub, Int.reduceToNat, Nat.reduceBEq, Nat.reduceMul, Nat.reduceLT, Int.reduceLE, Int.reduceLT, Nat.reduceMod, d1, h9, List.length_map, bne_self_eq_false, Int.reduceBEq, Int.reduceBNe, hpl, hql, List.getElem?_map, Int.toNat_natCast, d2, ha, q3, c4]
      repeat (refine ⟨by first | assumption | omega | decide | (simp; done) | (simp_all; done) | (simp; omega), ?_⟩)
      refine hk183 _ ?_
      simp only [shA, if_true, if_false, ite_true, ite_false, forall_const, ite_self, eq_self, reduceIte, reduceCtorEq, Nat.reduceEqDiff, Nat.reduceAdd, Nat.reduceLeDiff, Nat.reduceSub, Int.reduceToNat, Nat.reduceBEq, Nat.reduceMul, Nat.reduceLT, Int.reduceLE, Int.reduceLT, Nat.reduceMod, d1, h9, List.length_map, bne_self_eq_false, Int.reduceBEq, Int.reduceBNe, hpl, hql, List.getElem?_map, Int.toNat_natCast, d2, ha, q3, c4]
      refine hk179 _ ?_
      refine hn178 (some ([0, 1, 2, 7, 9, 10, 11, 12, 13, 58, 59, 60, 61, 62, 63, 64, 65, 66, 95, 96, 97, 100, 101, 102, 103, 104, 107, 108, 109, 110, 111], none)) _ ?_
      refine ev_seq_k fun K184 hn184 hr184 he184 => ?_
      refine ev_ops_k fun K185 hk185 => ?_
      refine evL_take 1 fun K186 hk186 => ?_
      simp only [shA, if_true, if_false, ite_true, ite_false, forall_const, ite_self, eq_self, reduceIte, reduceCtorEq, Nat.reduceEqDiff, Nat.reduceAdd, Nat.reduceLeDiff, Nat.reduceSub, Int.reduceToNat, Nat.reduceBEq, Nat.reduceMul, Nat.reduceLT, Int.reduceLE, Int.reduceLT, Nat.reduceMod, d1, h9, List.length_map, bne_self_eq_false, Int.reduceBEq, Int.reduceBNe, hpl, hql, List.getElem?_map, Int.toNat_natCast, d2, ha, q3, c4]
      repeat (refine ⟨by first | assumption | omega | decide | (simp; done) | (simp_all; done) | (simp; omega), ?_⟩)
      refine hk186 _ ?_
      simp only [shA, if_true, if_false, ite_true, ite_false, forall_const, ite_self, eq_self, reduceIte, reduceCtorEq, Nat.reduceEqDiff, Nat.reduceAdd, Nat.reduceLeDiff, Nat.reduceSub, Int.reduceToNat, Nat.reduceBEq, Nat.reduceMul, Nat.reduceLT, Int.reduceLE, Int.reduceLT, Nat.reduceMod, d1, h9, List.length_map, bne_self_eq_false, Int.reduceBEq, Int.reduceBNe, hpl, hql, List.getElem?_map, Int.toNat_natCast, d2, ha, q3, c4]
      repeat (refine ⟨by first | assumption | omega | decide | (simp; done) | (simp_all; done) | (simp; omega), ?_⟩)
      refine hk185 _ ?_
      refine hn184 (some ([0, 1, 2, 7, 9, 10, 11, 13, 58, 59, 60, 61, 62, 63, 64, 65, 66, 95, 96, 97, 100, 101, 102, 103, 104, 107, 108, 109, 110, 111], none)) _ ?_
      refine ev_seq_k fun K187 hn187 hr187 he187 => ?_
      refine ev_ops_k fun K188 hk188 => ?_
      refine evL_take 2 fun K189 hk189 => ?_
      simp only [shA, if_true, if_false, ite_true, ite_false, forall_const, ite_self, eq_self, reduceIte, reduceCtorEq, Nat.reduceEqDiff, Nat.reduceAdd, Nat.reduceLeDiff, Nat.reduceSub, Int.reduceToNat, Nat.reduceBEq, Nat.reduceMul, Nat.reduceLT, Int.reduceLE, Int.reduceLT, Nat.reduceMod, d1, h9, List.length_map, bne_self_eq_false, Int.reduceBEq, Int.reduceBNe, hpl, hql, List.getElem?_map, Int.toNat_natCast, d2, ha, q3, c4]
      repeat (refine ⟨by first | assumption | omega | decide | (simp; done) | (simp_all; done) | (simp; omega), ?_⟩)
      refine hk189 _ ?_
      refine evL_take 3 fun K190 hk190 => ?_
      simp only [shA, if_true, if_false, ite_true, ite_false, forall_const, ite_self, eq_self, reduceIte, reduceCtorEq, Nat.reduceEqDiff, Nat.reduceAdd, Nat.reduceLeDiff, Nat.reduceSub, Int.reduceToNat, Nat.reduceBEq, Nat.reduceMul, Nat.reduceLT, Int.reduceLE, Int.reduceLT, Nat.reduceMod, d1, h9, List.length_map, bne_self_eq_false, Int.reduceBEq, Int.reduceBNe, hpl, hql, List.getElem?_map, Int.toNat_natCast, d2, ha, q3, c4]
      repeat (refine ⟨by first | assumption | omega | decide | (simp; done) | (simp_all; done) | (simp; omega), ?_⟩)
      refine hk190 _ ?_
      refine evL_take 1 fun K191 hk191 => ?_
      simp only [shA, if_true, if_false, ite_true, ite_false, forall_const, ite_self, eq_self, reduceIte, reduceCtorEq, Nat.reduceEqDiff, Nat.reduceAdd, Nat.reduceLeDiff, Nat.reduceSub, Int.reduceToNat, Nat.reduceBEq, Nat.reduceMul, Nat.reduceLT, Int.reduceLE, Int.reduceLT, Nat.reduceMod, d1, h9, List.length_map, bne_self_eq_false, Int.reduceBEq, Int.reduceBNe, hpl, hql, List.getElem?_map, Int.toNat_natCast, d2, ha, q3, c4]
      repeat (refine ⟨by first | assumption | omega | decide | (simp; done) | (simp_all; done) | (simp; omega), ?_⟩)
      refine hk191 _ ?_
      refine evL_take 1 fun K192 hk192 => ?_
      simp only [shA, if_true, if_false, ite_true, ite_false, forall_const, ite_self, eq_self, reduceIte, reduceCtorEq, Nat.reduceEqDiff, Nat.reduceAdd, Nat.reduceLeDiff, Nat.reduceSub, Int.reduceToNat, Nat.reduceBEq, Nat.reduceMul, Nat.reduceLT, Int.reduceLE, Int.reduceLT, Nat.reduceMod, d1, h9, List.length_map, bne_self_eq_false, Int.reduceBEq, Int.reduceBNe, hpl, hql, List.getElem?_map, Int.toNat_natCast, d2, ha, q3, c4]
      repeat (refine ⟨by first | assumption | omega | decide | (simp; done) | (simp_all; done) | (simp; omega), ?_⟩)
      refine hk192 _ ?_
      refine evL_take 3 fun K193 hk193 => ?_
      simp only [shA, if_true, if_false, ite_true, ite_false, forall_const, ite_self, eq_self, reduceIte, reduceCtorEq, Nat.reduceEqDiff, Nat.reduceAdd, Nat.reduceLeDiff, Nat.reduceSub, Int.reduceToNat, Nat.reduceBEq, Nat.reduceMul, Nat.reduceLT, Int.reduceLE, Int.reduceLT, Nat.reduceMod, d1, h9, List.length_map, bne_self_eq_false, Int.reduceBEq, Int.reduceBNe, hpl, hql, List.getElem?_map, Int.toNat_natCast, d2, ha, q3, c4]
      repeat (refine ⟨by first | assumption | omega | decide | (simp; done) | (simp_all; done) | (simp; omega), ?_⟩)
      refine hk193 _ ?_
      refine evL_take 1 fun K194 hk194 => ?_
      simp only [shA, if_true, if_false, ite_true, ite_false, forall_const, ite_self, eq_self, reduceIte, reduceCtorEq, Nat.reduceEqDiff, Nat.reduceAdd, Nat.reduceLeDiff, Nat.reduceSub, Int.reduceToNat, Nat.reduceBEq, Nat.reduceMul, Nat.reduceLT, Int.reduceLE, Int.reduceLT, Nat.reduceMod, d1, h9, List.length_map, bne_self_eq_false, Int.reduceBEq, Int.reduceBNe, hpl, hql, List.getElem?_map, Int.toNat_natCast, d2, ha, q3, c4]
      repeat (refine ⟨by first | assumption | omega | decide | (simp; done) | (simp_all; done) | (simp; omega), ?_⟩)
      refine hk194 _ ?_
      simp only [shA, if_true, if_false, ite_true, ite_false, forall_const, ite_self, eq_self, reduceIte, reduceCtorEq, Nat.reduceEqDiff, Nat.reduceAdd, Nat.reduceLeDiff, Nat.reduceSub, Int.reduceToNat, Nat.reduceBEq, Nat.reduceMul, Nat.reduceLT, Int.reduceLE, Int.reduceLT, Nat.reduceMod, d1, h9, List.length_map, bne_self_eq_false, Int.reduceBEq, Int.reduceBNe, hpl, hql, List.getElem?_map, Int.toNat_natCast, d2, ha, q3, c4]
      refine hk188 _ ?_
      refine hn187 (some ([0, 1, 2, 7, 9, 10, 11, 67, 95, 96, 97, 100, 101, 102, 103, 104, 107, 108, 109, 110, 111], none)) _ ?_
      refine ev_cond_k rfl (fun hx => absurd hx (by simp at hx)) (fun hc2 => ?_)
      clear hc2
      refine hn173 _ ?_
      refine hn172 (some ([0, 1, 2, 7, 9, 10, 95, 96, 97, 100, 101, 102, 103, 104, 107, 108, 109, 110, 111], none)) _ ?_
      refine ev_ops_k fun K195 hk195 => ?_
      refine evL_take 2 fun K196 hk196 => ?_
      simp only [shA, if_true, if_false, ite_true, ite_false, forall_const, ite_self, eq_self, reduceIte, reduceCtorEq, Nat.reduceEqDiff, Nat.reduceAdd, Nat.reduceLeDiff, Nat.reduceSub, Int.reduceToNat, Nat.reduceBEq, Nat.reduceMul, Nat.reduceLT, Int.reduceLE, Int.reduceLT, Nat.reduceMod, d1, h9, List.length_map, bne_self_eq_false, Int.reduceBEq, Int.reduceBNe, hpl, hql, List.getElem?_map, Int.toNat_natCast, d2, ha, q3, c4]
      repeat (refine ⟨by first | assumption | omega | decide | (simp; done) | (simp_all; done) | (simp; omega), ?_⟩)
      refine hk196 _ ?_
      simp only [shA, if_true, if_false, ite_true, ite_false, forall_const, ite_self, eq_self, reduceIte, reduceCtorEq, Nat.reduceEqDiff, Nat.reduceAdd, Nat.reduceLeDiff, Nat.reduceSub, Int.reduceToNat, Nat.reduceBEq, Nat.reduceMul, Nat.reduceLT, Int.reduceLE, Int.reduceLT, Nat.reduceMod, d1, h9, List.length_map, bne_self_eq_false, Int.reduceBEq, Int.reduceBNe, hpl, hql, List.getElem?_map, Int.toNat_natCast, d2, ha, q3, c4]
      refine hk195 _ ?_
      refine hn21 (l.length - (n + 1)) (some ([0, 1, 2, 7, 9, 10, 95, 96, 97, 100, 101, 102, 103, 104, 107, 108, 109, 110, 111], some ([0, 1], 2))) _ ?_ ?_
      all_goals try simp only [St.casts, St.cast, nilS, St.put, St.newO, St.setO, delA, List.getElem?_cons_zero, List.getElem?_cons_succ, List.set_cons_zero, List.set_cons_succ, getA, Nat.reduceEqDiff, reduceCtorEq, keepT, renT, renSh, renC, renO, renOb, idxN, List.map_cons, List.map_nil, List.length_cons, List.length_nil, Nat.reduceAdd, Nat.zero_add, decide_true, St.keep, refsT, refsO, refsL, refsC, refsOk, decide_eq_true_eq, List.contains_cons, List.contains_nil, Bool.or_false, Bool.or_true, Bool.true_or, Bool.false_or, Bool.and_true, Bool.true_and, beq_self_eq_true, Nat.reduceBEq, reduceIte, Nat.blt_eq, Nat.reduceLT, decide_true, Nat.reduceLeDiff, Bool.false_eq_true, Bool.and_eq_true, and_self, true_and, and_true]
      · omega
      · refine ⟨n + 1, by omega, by omega, ?_⟩
        rw [runA_succ ha, hap]
end Go.Proofs.Ytlbhfpcbbembgaa
