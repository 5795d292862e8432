/-
  Layer 5 by shadows: Sync.
-/
import Derived.Test.YtlbhfpcbbembgaaK5e
namespace Go.Proofs.Ytlbhfpcbbembgaa
set_option linter.unusedSimpArgs false
set_option linter.unusedVariables false
open Go.RowKit Go.Maps

/-- Line k's log behind a Sync: what was asked is kept. -/
def syncLog (g : Int → Option Int) (k : Nat) (y : LogV) : LogV := match g (k : Int) with | some m => { y with kept := max y.kept m } | none => y
def syncM (L : LinesM) (t : Int) : LinesM := { L with logs := L.logs.mapIdx (syncLog (askOf L t)), asks := fun s => if s = t then none else L.asks s }
/-- Those still left are not yet kept. -/
def leftG (g : Int → Option Int) (left : Int → Bool) : Int → Option Int := fun k => if left k = true then none else g k
abbrev boxS (L : LinesM) : Ob := .box 59 [.sl 3 0 (L.first.map eWord), .own 2, .mp 3 fun t => (L.asks t).map eAsked]
def SInv (L : LinesM) (t : Int) (k : Nat) (S : St) : Prop :=
  ∃ left cur, (∀ j, left j = true → (askOf L t j).isSome = true) ∧ S = ⟨[(1, sI t), (2, .ptr 0 0 0), (4, .ptr 1 0 0), (20, .own 3)],
    [(0, boxS L), (1, .box 59 [.sl 3 0 [], .sl 2 0 [], .mp 3 fun _ => none]), (2, .row 95 2 ((L.logs.mapIdx (syncLog (leftG (askOf L t) left))).map eLog)), (3, .iter (fun k => (askOf L t k).map sI) left k cur)], 4⟩

theorem ok_lSync_thread (L : LinesM) (t : Int) (h : ¬ (1 ≤ t ∧ t ≤ 8)) : Ok 30 [eLines L, sI t] (.tup [eLines L, sI 3]) := by
  refine ok_of_tr Try.func30 tr_lSync rfl ?_
  unfold evFn sc_lSync
  refine ev_seq_k fun K1 hn1 hr1 he1 => ?_
  refine ev_ops_k fun K2 hk2 => ?_
  simp only [shA, if_true, if_false, ite_true, ite_false, forall_const, ite_self, eq_self, reduceIte, reduceCtorEq, Nat.reduceEqDiff, Nat.reduceAdd, Nat.reduceLeDiff, Nat.reduceSub, Int.reduceToNat, Nat.reduceBEq, Nat.reduceMul, Nat.reduceLT, Int.reduceLE, Int.reduceLT, Nat.reduceMod]
  refine hk2 _ ?_
  refine hn1 (some ([1, 2, 4], none)) _ ?_
  refine ev_seq_k fun K3 hn3 hr3 he3 => ?_
  refine ev_seq_k fun K4 hn4 hr4 he4 => ?_
  refine ev_ops_k fun K5 hk5 => ?_
  refine evL_take 1 fun K6 hk6 => ?_
  simp only [shA, if_true, if_false, ite_true, ite_false, forall_const, ite_self, eq_self, reduceIte, reduceCtorEq, Nat.reduceEqDiff, Nat.reduceAdd, Nat.reduceLeDiff, Nat.reduceSub, Int.reduceToNat, Nat.reduceBEq, Nat.reduceMul, Nat.reduceLT, Int.reduceLE, Int.reduceLT, Nat.reduceMod]
  refine hk6 _ ?_
  refine evL_take 1 fun K7 hk7 => ?_
  simp only [shA, if_true, if_false, ite_true, ite_false, forall_const, ite_self, eq_self, reduceIte, reduceCtorEq, Nat.reduceEqDiff, Nat.reduceAdd, Nat.reduceLeDiff, Nat.reduceSub, Int.reduceToNat, Nat.reduceBEq, Nat.reduceMul, Nat.reduceLT, Int.reduceLE, Int.reduceLT, Nat.reduceMod]
  refine Or.inl (Or.inl ⟨_, ok_lThread t, ?_⟩)
  refine hk7 _ ?_
  simp only [shA, if_true, if_false, ite_true, ite_false, forall_const, ite_self, eq_self, reduceIte, reduceCtorEq, Nat.reduceEqDiff, Nat.reduceAdd, Nat.reduceLeDiff, Nat.reduceSub, Int.reduceToNat, Nat.reduceBEq, Nat.reduceMul, Nat.reduceLT, Int.reduceLE, Int.reduceLT, Nat.reduceMod]
  refine hk5 _ ?_
  refine hn4 (some ([1, 2, 4, 10], none)) _ ?_
  refine ev_cond_k rfl (fun hc0 => ?_) (fun hx => absurd hx (by simp [h] at hx))
  clear hc0
  refine ev_seq_k fun K8 hn8 hr8 he8 => ?_
  refine ev_ops_k fun K9 hk9 => ?_
  refine evL_take 1 fun K10 hk10 => ?_
  simp only [shA, if_true, if_false, ite_true, ite_false, forall_const, ite_self, eq_self, reduceIte, reduceCtorEq, Nat.reduceEqDiff, Nat.reduceAdd, Nat.reduceLeDiff, Nat.reduceSub, Int.reduceToNat, Nat.reduceBEq, Nat.reduceMul, Nat.reduceLT, Int.reduceLE, Int.reduceLT, Nat.reduceMod]
  repeat (refine ⟨by first | assumption | omega | decide | (simp; done) | (simp_all; done) | (simp; omega), ?_⟩)
  refine hk10 _ ?_
  refine evL_take 1 fun K11 hk11 => ?_
  simp only [shA, if_true, if_false, ite_true, ite_false, forall_const, ite_self, eq_self, reduceIte, reduceCtorEq, Nat.reduceEqDiff, Nat.reduceAdd, Nat.reduceLeDiff, Nat.reduceSub, Int.reduceToNat, Nat.reduceBEq, Nat.reduceMul, Nat.reduceLT, Int.reduceLE, Int.reduceLT, Nat.reduceMod]
  repeat (refine ⟨by first | assumption | omega | decide | (simp; done) | (simp_all; done) | (simp; omega), ?_⟩)
  refine hk11 _ ?_
  simp only [shA, if_true, if_false, ite_true, ite_false, forall_const, ite_self, eq_self, reduceIte, reduceCtorEq, Nat.reduceEqDiff, Nat.reduceAdd, Nat.reduceLeDiff, Nat.reduceSub, Int.reduceToNat, Nat.reduceBEq, Nat.reduceMul, Nat.reduceLT, Int.reduceLE, Int.reduceLT, Nat.reduceMod]
  refine hk9 _ ?_
  refine hn8 (some ([4, 5], none)) _ ?_
  refine hr3 _ ?_
  simp only [shA, if_true, if_false, ite_true, ite_false, forall_const, ite_self, eq_self, reduceIte, reduceCtorEq, Nat.reduceEqDiff, Nat.reduceAdd, Nat.reduceLeDiff, Nat.reduceSub, Int.reduceToNat, Nat.reduceBEq, Nat.reduceMul, Nat.reduceLT, Int.reduceLE, Int.reduceLT, Nat.reduceMod, ev, fin, rv_lSync]

theorem sync_get (g : Int → Option Int) (left : Int → Bool) (l : List LogV) (n : Nat) (y : LogV) (hy : l[n]? = some y) (hn : left (n : Int) = true) : (l.mapIdx (syncLog (leftG g left)))[n]? = some y := by
  rw [List.getElem?_mapIdx, hy]
  simp [syncLog, leftG, hn]
theorem sync_step (g : Int → Option Int) (left : Int → Bool) (l : List LogV) (n : Nat) (y : LogV) (m : Int) (hy : l[n]? = some y) (hg : g (n : Int) = some m) :
    l.mapIdx (syncLog (leftG g fun z => left z && z != (n : Int))) = (l.mapIdx (syncLog (leftG g left))).set n { y with kept := max y.kept m } := by
  refine List.ext_getElem? fun i => ?_
  rw [List.getElem?_mapIdx, List.getElem?_set]
  by_cases e : n = i
  · subst e
    obtain ⟨h1, h2⟩ := List.getElem?_eq_some_iff.1 hy
    simp [syncLog, leftG, hg, h1, h2]
  · rw [if_neg e, List.getElem?_mapIdx]
    have e2 : ¬ (i : Int) = (n : Int) := by omega
    cases h : l[i]? with
    | none => rfl
    | some z => simp [syncLog, leftG, e2, bne]

theorem sync_fin (L : LinesM) (t : Int) (B : Int → Option Sh) (h2 : ∀ k, B k = (L.asks k).map eAsked) :
    Sh.tup [.agg [.sl 3 0 (L.first.map eWord), .sl 2 0 ((L.logs.mapIdx (syncLog (askOf L t))).map eLog), .mp 3 fun j => if j = t then none else B j], sI 0] = .tup [eLines (syncM L t), sI 0] := by
  obtain rfl : B = fun k => (L.asks k).map eAsked := funext h2
  have e : (fun j => if j = t then none else (L.asks j).map eAsked) = fun s => (if s = t then none else L.asks s).map eAsked := by
    funext j
    by_cases e : j = t <;> simp [e]
  simp only [eLines, syncM]
  rw [← e]
theorem sync_nil (L : LinesM) (t : Int) (h : ∀ k, (L.asks k).map eAsked = none) : RepLe (.tup [.agg [.sl 3 0 (L.first.map eWord), .sl 2 0 ((L.logs.mapIdx (syncLog (askOf L t))).map eLog), .v (.map none)], sI 0]) (.tup [eLines (syncM L t), sI 0]) := by
  rw [← sync_fin L t (fun _ => none) (fun k => (h k).symm)]
  intro H v hv
  cases hv with
  | tup hv =>
    cases hv with
    | cons h1 tl =>
      cases h1 with
      | agg h1 h2 =>
        cases h1 with
        | cons a h1 =>
          cases h1 with
          | cons b h1 =>
            cases h1 with
            | cons c h1 =>
              cases h1
              cases c
              exact .tup (.cons (.agg (.cons a (.cons b (.cons (.mpn fun i => by simp) .nil))) rfl) tl)

set_option maxHeartbeats 4000000 in
theorem ok_lSync (L : LinesM) (t : Int) (hL : LinesOk L) (hA : AsksOk L) (ht : 1 ≤ t ∧ t ≤ 8) : Ok 30 [eLines L, sI t] (.tup [eLines (syncM L t), sI 0]) := by
  refine ok_of_tr2 Try.func30 tr_lSync rfl ?_
  have hmany := hL.many
  have hmost := hL.most
  have hnone : ∀ left : Int → Bool, (∀ j, left j = false) → leftG (askOf L t) left = askOf L t := fun left h => by funext j; simp [leftG, h]
  have hs2 : ∀ k, (L.asks k).map eAsked ≠ none → 0 ≤ k ∧ k < 4096 := fun k hk => by
    have := hA.thr k (fun e => hk (by rw [e]; rfl))
    omega
  unfold evFn2 sc_lSync
  refine ev_seq_k fun K1 hn1 hr1 he1 => ?_
  refine ev_ops_k fun K2 hk2 => ?_
  simp only [shA, if_true, if_false, ite_true, ite_false, forall_const, ite_self, eq_self, reduceIte, reduceCtorEq, Nat.reduceEqDiff, Nat.reduceAdd, Nat.reduceLeDiff, Nat.reduceSub, Int.reduceToNat, Nat.reduceBEq, Nat.reduceMul, Nat.reduceLT, Int.reduceLE, Int.reduceLT, Nat.reduceMod, asksOf_lk, List.getElem?_map, Int.toNat_natCast, Option.map_some, List.length_map]
  refine hk2 _ ?_
  refine hn1 (some ([1, 2, 4], none)) _ ?_
  refine ev_seq_k fun K3 hn3 hr3 he3 => ?_
  refine ev_seq_k fun K4 hn4 hr4 he4 => ?_
  refine ev_ops_k fun K5 hk5 => ?_
  refine evL_take 1 fun K6 hk6 => ?_
  simp only [shA, if_true, if_false, ite_true, ite_false, forall_const, ite_self, eq_self, reduceIte, reduceCtorEq, Nat.reduceEqDiff, Nat.reduceAdd, Nat.reduceLeDiff, Nat.reduceSub, Int.reduceToNat, Nat.reduceBEq, Nat.reduceMul, Nat.reduceLT, Int.reduceLE, Int.reduceLT, Nat.reduceMod, asksOf_lk, List.getElem?_map, Int.toNat_natCast, Option.map_some, List.length_map]
  refine hk6 _ ?_
  refine evL_take 1 fun K7 hk7 => ?_
  simp only [shA, if_true, if_false, ite_true, ite_false, forall_const, ite_self, eq_self, reduceIte, reduceCtorEq, Nat.reduceEqDiff, Nat.reduceAdd, Nat.reduceLeDiff, Nat.reduceSub, Int.reduceToNat, Nat.reduceBEq, Nat.reduceMul, Nat.reduceLT, Int.reduceLE, Int.reduceLT, Nat.reduceMod, asksOf_lk, List.getElem?_map, Int.toNat_natCast, Option.map_some, List.length_map]
  refine Or.inl (Or.inl ⟨_, ok_lThread t, ?_⟩)
  refine hk7 _ ?_
  simp only [shA, if_true, if_false, ite_true, ite_false, forall_const, ite_self, eq_self, reduceIte, reduceCtorEq, Nat.reduceEqDiff, Nat.reduceAdd, Nat.reduceLeDiff, Nat.reduceSub, Int.reduceToNat, Nat.reduceBEq, Nat.reduceMul, Nat.reduceLT, Int.reduceLE, Int.reduceLT, Nat.reduceMod, asksOf_lk, List.getElem?_map, Int.toNat_natCast, Option.map_some, List.length_map]
  refine hk5 _ ?_
  refine hn4 (some ([1, 2, 4, 10], none)) _ ?_
  refine ev_cond_k rfl (fun hx => absurd hx (by simp [ht] at hx)) (fun hc0 => ?_)
  clear hc0
  refine hn3 (some ([1, 2, 4], none)) _ ?_
  refine ev_seq_k fun K8 hn8 hr8 he8 => ?_
  refine ev_ops_k fun K9 hk9 => ?_
  refine evL_take 2 fun K10 hk10 => ?_
  simp only [shA, if_true, if_false, ite_true, ite_false, forall_const, ite_self, eq_self, reduceIte, reduceCtorEq, Nat.reduceEqDiff, Nat.reduceAdd, Nat.reduceLeDiff, Nat.reduceSub, Int.reduceToNat, Nat.reduceBEq, Nat.reduceMul, Nat.reduceLT, Int.reduceLE, Int.reduceLT, Nat.reduceMod, asksOf_lk, List.getElem?_map, Int.toNat_natCast, Option.map_some, List.length_map]
  repeat (refine ⟨by first | assumption | omega | decide | (simp; done) | (simp_all; done) | (simp; omega), ?_⟩)
  refine hk10 _ ?_
  refine evL_take 1 fun K11 hk11 => ?_
  simp only [shA, if_true, if_false, ite_true, ite_false, forall_const, ite_self, eq_self, reduceIte, reduceCtorEq, Nat.reduceEqDiff, Nat.reduceAdd, Nat.reduceLeDiff, Nat.reduceSub, Int.reduceToNat, Nat.reduceBEq, Nat.reduceMul, Nat.reduceLT, Int.reduceLE, Int.reduceLT, Nat.reduceMod, asksOf_lk, List.getElem?_map, Int.toNat_natCast, Option.map_some, List.length_map]
  refine Or.inl (Or.inr (Or.inl ⟨_, _, _, row_cloneLog 0 _ (by simp; omega), ?_⟩))
  refine hk11 _ ?_
  simp only [shA, if_true, if_false, ite_true, ite_false, forall_const, ite_self, eq_self, reduceIte, reduceCtorEq, Nat.reduceEqDiff, Nat.reduceAdd, Nat.reduceLeDiff, Nat.reduceSub, Int.reduceToNat, Nat.reduceBEq, Nat.reduceMul, Nat.reduceLT, Int.reduceLE, Int.reduceLT, Nat.reduceMod, asksOf_lk, List.getElem?_map, Int.toNat_natCast, Option.map_some, List.length_map]
  repeat (refine ⟨by first | assumption | omega | decide | (simp; done) | (simp_all; done) | (simp; omega), ?_⟩)
  refine hk9 _ ?_
  refine hn8 (some ([1, 2, 4], none)) _ ?_
  refine ev_seq_k fun K12 hn12 hr12 he12 => ?_
  refine ev_seq_k fun K13 hn13 hr13 he13 => ?_
  refine ev_ops_k fun K14 hk14 => ?_
  refine evL_take 2 fun K15 hk15 => ?_
  simp only [shA, if_true, if_false, ite_true, ite_false, forall_const, ite_self, eq_self, reduceIte, reduceCtorEq, Nat.reduceEqDiff, Nat.reduceAdd, Nat.reduceLeDiff, Nat.reduceSub, Int.reduceToNat, Nat.reduceBEq, Nat.reduceMul, Nat.reduceLT, Int.reduceLE, Int.reduceLT, Nat.reduceMod, asksOf_lk, List.getElem?_map, Int.toNat_natCast, Option.map_some, List.length_map]
  repeat (refine ⟨by first | assumption | omega | decide | (simp; done) | (simp_all; done) | (simp; omega), ?_⟩)
  refine hk15 _ ?_
  refine evL_take 2 fun K16 hk16 => ?_
  simp only [shA, if_true, if_false, ite_true, ite_false, forall_const, ite_self, eq_self, reduceIte, reduceCtorEq, Nat.reduceEqDiff, Nat.reduceAdd, Nat.reduceLeDiff, Nat.reduceSub, Int.reduceToNat, Nat.reduceBEq, Nat.reduceMul, Nat.reduceLT, Int.reduceLE, Int.reduceLT, Nat.reduceMod, asksOf_lk, List.getElem?_map, Int.toNat_natCast, Option.map_some, List.length_map]
  repeat (refine ⟨by first | assumption | omega | decide | (simp; done) | (simp_all; done) | (simp; omega), ?_⟩)
  refine hk16 _ ?_
  simp only [shA, if_true, if_false, ite_true, ite_false, forall_const, ite_self, eq_self, reduceIte, reduceCtorEq, Nat.reduceEqDiff, Nat.reduceAdd, Nat.reduceLeDiff, Nat.reduceSub, Int.reduceToNat, Nat.reduceBEq, Nat.reduceMul, Nat.reduceLT, Int.reduceLE, Int.reduceLT, Nat.reduceMod, asksOf_lk, List.getElem?_map, Int.toNat_natCast, Option.map_some, List.length_map]
  first | refine ⟨rfl, fun cnt0 => ?_⟩ | intro cnt0
  refine hk14 _ ?_
  refine hn13 (some ([1, 2, 4, 20], none)) _ ?_
  refine ev_block_k fun K17 hn17 hx17 hr17 he17 => ?_
  refine ev_loop_k (SInv L t) (cnt0) (some ([1, 2, 4, 20], some ([0, 1, 2, 3], 4))) ([]) ?_ ?_
  · try simp only [St.casts, St.cast, nilS, St.put, St.newO, St.setO, delA, List.getElem?_cons_zero, List.getElem?_cons_succ, List.set_cons_zero, List.set_cons_succ, getA, Nat.reduceEqDiff, reduceCtorEq, keepT, renT, renSh, renC, renO, renOb, idxN, List.map_cons, List.map_nil, List.length_cons, List.length_nil, Nat.reduceAdd, Nat.zero_add, decide_true, St.keep, refsT, refsO, refsL, refsC, refsOk, decide_eq_true_eq, List.contains_cons, List.contains_nil, Bool.or_false, Bool.or_true, Bool.true_or, Bool.false_or, Bool.and_true, Bool.true_and, beq_self_eq_true, Nat.reduceBEq, reduceIte, Nat.blt_eq, Nat.reduceLT, decide_true, Nat.reduceLeDiff, Bool.false_eq_true, Bool.and_eq_true, and_self, true_and, and_true]
    refine ⟨fun i => (Option.map sI (askOf L t i)).isSome, none, fun j h => by simpa using h, ?_⟩
    have e : L.logs.mapIdx (syncLog (leftG (askOf L t) fun i => (Option.map sI (askOf L t i)).isSome)) = L.logs := by
      refine List.ext_getElem? fun i => ?_
      rw [List.getElem?_mapIdx]
      cases h : L.logs[i]? with
      | none => rfl
      | some z => cases h2 : askOf L t i <;> simp [syncLog, leftG, h2]
    rw [e]
  · intro k S1 hI
    obtain ⟨left, cur, hleft, rfl⟩ := hI
    intro K18 hn18 hr18 he18
    refine ev_seq_k fun K19 hn19 hr19 he19 => ?_
    refine ev_ops_k fun K20 hk20 => ?_
    refine evL_take 1 fun K21 hk21 => ?_
    simp only [shA, if_true, if_false, ite_true, ite_false, forall_const, ite_self, eq_self, reduceIte, reduceCtorEq, Nat.reduceEqDiff, Nat.reduceAdd, Nat.reduceLeDiff, Nat.reduceSub, Int.reduceToNat, Nat.reduceBEq, Nat.reduceMul, Nat.reduceLT, Int.reduceLE, Int.reduceLT, Nat.reduceMod, asksOf_lk, List.getElem?_map, Int.toNat_natCast, Option.map_some, List.length_map]
    refine ⟨fun hno => ?_, fun jj sj cj hj1 hj2 hj3 hj4 hj5 => ?_⟩
    · skip
      refine hk21 _ ?_
      simp only [shA, if_true, if_false, ite_true, ite_false, forall_const, ite_self, eq_self, reduceIte, reduceCtorEq, Nat.reduceEqDiff, Nat.reduceAdd, Nat.reduceLeDiff, Nat.reduceSub, Int.reduceToNat, Nat.reduceBEq, Nat.reduceMul, Nat.reduceLT, Int.reduceLE, Int.reduceLT, Nat.reduceMod, asksOf_lk, List.getElem?_map, Int.toNat_natCast, Option.map_some, List.length_map]
      refine hk20 _ ?_
      refine hn19 (some ([1, 2, 4, 20, 22], none)) _ ?_
      refine ev_seq_k fun K22 hn22 hr22 he22 => ?_
      refine ev_cond_k rfl (fun hx => absurd hx (by cases hx)) (fun hc1 => ?_)
      clear hc1
      refine he22 0 _ ?_
      refine he18 0 _ ?_
      refine hx17 _ ?_
      refine hn12 (some ([1, 2, 4], none)) _ ?_
      refine ev_seq_k fun K23 hn23 hr23 he23 => ?_
      refine ev_ops_k fun K24 hk24 => ?_
      refine evL_take 2 fun K25 hk25 => ?_
      simp only [shA, if_true, if_false, ite_true, ite_false, forall_const, ite_self, eq_self, reduceIte, reduceCtorEq, Nat.reduceEqDiff, Nat.reduceAdd, Nat.reduceLeDiff, Nat.reduceSub, Int.reduceToNat, Nat.reduceBEq, Nat.reduceMul, Nat.reduceLT, Int.reduceLE, Int.reduceLT, Nat.reduceMod, asksOf_lk, List.getElem?_map, Int.toNat_natCast, Option.map_some, List.length_map]
      repeat (refine ⟨by first | assumption | omega | decide | (simp; done) | (simp_all; done) | (simp; omega), ?_⟩)
      refine hk25 _ ?_
      refine evL_take 1 fun K26 hk26 => ?_
      simp only [shA, if_true, if_false, ite_true, ite_false, forall_const, ite_self, eq_self, reduceIte, reduceCtorEq, Nat.reduceEqDiff, Nat.reduceAdd, Nat.reduceLeDiff, Nat.reduceSub, Int.reduceToNat, Nat.reduceBEq, Nat.reduceMul, Nat.reduceLT, Int.reduceLE, Int.reduceLT, Nat.reduceMod, asksOf_lk, List.getElem?_map, Int.toNat_natCast, Option.map_some, List.length_map]
      refine Or.inl (Or.inr (Or.inr ⟨_, _, _, map_cloneAsks _ hs2, ?_, fun hnil2 => ?_⟩))
      · skip
        refine hk26 _ ?_
        simp only [shA, if_true, if_false, ite_true, ite_false, forall_const, ite_self, eq_self, reduceIte, reduceCtorEq, Nat.reduceEqDiff, Nat.reduceAdd, Nat.reduceLeDiff, Nat.reduceSub, Int.reduceToNat, Nat.reduceBEq, Nat.reduceMul, Nat.reduceLT, Int.reduceLE, Int.reduceLT, Nat.reduceMod, asksOf_lk, List.getElem?_map, Int.toNat_natCast, Option.map_some, List.length_map]
        repeat (refine ⟨by first | assumption | omega | decide | (simp; done) | (simp_all; done) | (simp; omega), ?_⟩)
        refine hk24 _ ?_
        refine hn23 (some ([1, 2, 4], none)) _ ?_
        refine ev_seq_k fun K27 hn27 hr27 he27 => ?_
        refine ev_ops_k fun K28 hk28 => ?_
        refine evL_take 2 fun K29 hk29 => ?_
        simp only [shA, if_true, if_false, ite_true, ite_false, forall_const, ite_self, eq_self, reduceIte, reduceCtorEq, Nat.reduceEqDiff, Nat.reduceAdd, Nat.reduceLeDiff, Nat.reduceSub, Int.reduceToNat, Nat.reduceBEq, Nat.reduceMul, Nat.reduceLT, Int.reduceLE, Int.reduceLT, Nat.reduceMod, asksOf_lk, List.getElem?_map, Int.toNat_natCast, Option.map_some, List.length_map]
        repeat (refine ⟨by first | assumption | omega | decide | (simp; done) | (simp_all; done) | (simp; omega), ?_⟩)
        refine hk29 _ ?_
        simp only [shA, if_true, if_false, ite_true, ite_false, forall_const, ite_self, eq_self, reduceIte, reduceCtorEq, Nat.reduceEqDiff, Nat.reduceAdd, Nat.reduceLeDiff, Nat.reduceSub, Int.reduceToNat, Nat.reduceBEq, Nat.reduceMul, Nat.reduceLT, Int.reduceLE, Int.reduceLT, Nat.reduceMod, asksOf_lk, List.getElem?_map, Int.toNat_natCast, Option.map_some, List.length_map]
        repeat (refine ⟨by first | assumption | omega | decide | (simp; done) | (simp_all; done) | (simp; omega), ?_⟩)
        refine hk28 _ ?_
        refine hn27 (some ([2, 4], none)) _ ?_
        refine ev_seq_k fun K30 hn30 hr30 he30 => ?_
        refine ev_ops_k fun K31 hk31 => ?_
        refine evL_take 1 fun K32 hk32 => ?_
        simp only [shA, if_true, if_false, ite_true, ite_false, forall_const, ite_self, eq_self, reduceIte, reduceCtorEq, Nat.reduceEqDiff, Nat.reduceAdd, Nat.reduceLeDiff, Nat.reduceSub, Int.reduceToNat, Nat.reduceBEq, Nat.reduceMul, Nat.reduceLT, Int.reduceLE, Int.reduceLT, Nat.reduceMod, asksOf_lk, List.getElem?_map, Int.toNat_natCast, Option.map_some, List.length_map]
        repeat (refine ⟨by first | assumption | omega | decide | (simp; done) | (simp_all; done) | (simp; omega), ?_⟩)
        refine hk32 _ ?_
        refine evL_take 1 fun K33 hk33 => ?_
        simp only [shA, if_true, if_false, ite_true, ite_false, forall_const, ite_self, eq_self, reduceIte, reduceCtorEq, Nat.reduceEqDiff, Nat.reduceAdd, Nat.reduceLeDiff, Nat.reduceSub, Int.reduceToNat, Nat.reduceBEq, Nat.reduceMul, Nat.reduceLT, Int.reduceLE, Int.reduceLT, Nat.reduceMod, asksOf_lk, List.getElem?_map, Int.toNat_natCast, Option.map_some, List.length_map]
        repeat (refine ⟨by first | assumption | omega | decide | (simp; done) | (simp_all; done) | (simp; omega), ?_⟩)
        refine hk33 _ ?_
        simp only [shA, if_true, if_false, ite_true, ite_false, forall_const, ite_self, eq_self, reduceIte, reduceCtorEq, Nat.reduceEqDiff, Nat.reduceAdd, Nat.reduceLeDiff, Nat.reduceSub, Int.reduceToNat, Nat.reduceBEq, Nat.reduceMul, Nat.reduceLT, Int.reduceLE, Int.reduceLT, Nat.reduceMod, asksOf_lk, List.getElem?_map, Int.toNat_natCast, Option.map_some, List.length_map]
        refine hk31 _ ?_
        refine hn30 (some ([4, 5], none)) _ ?_
        simp only [shA, if_true, if_false, ite_true, ite_false, forall_const, ite_self, eq_self, reduceIte, reduceCtorEq, Nat.reduceEqDiff, Nat.reduceAdd, Nat.reduceLeDiff, Nat.reduceSub, Int.reduceToNat, Nat.reduceBEq, Nat.reduceMul, Nat.reduceLT, Int.reduceLE, Int.reduceLT, Nat.reduceMod, ev, fin2, rv_lSync, asksOf_lk, List.getElem?_map, Int.toNat_natCast, Option.map_some, List.length_map]
        rw [hnone left hno]
        first
          | exact sync_nil L t hnil2
          | (rw [← sync_fin L t (fun k => (L.asks k).map eAsked) (fun k => rfl)]; exact fun _ _ h => h)
      · skip
        refine hk26 _ ?_
        simp only [shA, if_true, if_false, ite_true, ite_false, forall_const, ite_self, eq_self, reduceIte, reduceCtorEq, Nat.reduceEqDiff, Nat.reduceAdd, Nat.reduceLeDiff, Nat.reduceSub, Int.reduceToNat, Nat.reduceBEq, Nat.reduceMul, Nat.reduceLT, Int.reduceLE, Int.reduceLT, Nat.reduceMod, asksOf_lk, List.getElem?_map, Int.toNat_natCast, Option.map_some, List.length_map]
        repeat (refine ⟨by first | assumption | omega | decide | (simp; done) | (simp_all; done) | (simp; omega), ?_⟩)
        refine hk24 _ ?_
        refine hn23 (some ([1, 2, 4], none)) _ ?_
        refine ev_seq_k fun K34 hn34 hr34 he34 => ?_
        refine ev_ops_k fun K35 hk35 => ?_
        refine evL_take 2 fun K36 hk36 => ?_
        simp only [shA, if_true, if_false, ite_true, ite_false, forall_const, ite_self, eq_self, reduceIte, reduceCtorEq, Nat.reduceEqDiff, Nat.reduceAdd, Nat.reduceLeDiff, Nat.reduceSub, Int.reduceToNat, Nat.reduceBEq, Nat.reduceMul, Nat.reduceLT, Int.reduceLE, Int.reduceLT, Nat.reduceMod, asksOf_lk, List.getElem?_map, Int.toNat_natCast, Option.map_some, List.length_map]
        repeat (refine ⟨by first | assumption | omega | decide | (simp; done) | (simp_all; done) | (simp; omega), ?_⟩)
        refine hk36 _ ?_
        simp only [shA, if_true, if_false, ite_true, ite_false, forall_const, ite_self, eq_self, reduceIte, reduceCtorEq, Nat.reduceEqDiff, Nat.reduceAdd, Nat.reduceLeDiff, Nat.reduceSub, Int.reduceToNat, Nat.reduceBEq, Nat.reduceMul, Nat.reduceLT, Int.reduceLE, Int.reduceLT, Nat.reduceMod, asksOf_lk, List.getElem?_map, Int.toNat_natCast, Option.map_some, List.length_map]
        repeat (refine ⟨by first | assumption | omega | decide | (simp; done) | (simp_all; done) | (simp; omega), ?_⟩)
        refine hk35 _ ?_
        refine hn34 (some ([2, 4], none)) _ ?_
        refine ev_seq_k fun K37 hn37 hr37 he37 => ?_
        refine ev_ops_k fun K38 hk38 => ?_
        refine evL_take 1 fun K39 hk39 => ?_
        simp only [shA, if_true, if_false, ite_true, ite_false, forall_const, ite_self, eq_self, reduceIte, reduceCtorEq, Nat.reduceEqDiff, Nat.reduceAdd, Nat.reduceLeDiff, Nat.reduceSub, Int.reduceToNat, Nat.reduceBEq, Nat.reduceMul, Nat.reduceLT, Int.reduceLE, Int.reduceLT, Nat.reduceMod, asksOf_lk, List.getElem?_map, Int.toNat_natCast, Option.map_some, List.length_map]
        repeat (refine ⟨by first | assumption | omega | decide | (simp; done) | (simp_all; done) | (simp; omega), ?_⟩)
        refine hk39 _ ?_
        refine evL_take 1 fun K40 hk40 => ?_
        simp only [shA, if_true, if_false, ite_true, ite_false, forall_const, ite_self, eq_self, reduceIte, reduceCtorEq, Nat.reduceEqDiff, Nat.reduceAdd, Nat.reduceLeDiff, Nat.reduceSub, Int.reduceToNat, Nat.reduceBEq, Nat.reduceMul, Nat.reduceLT, Int.reduceLE, Int.reduceLT, Nat.reduceMod, asksOf_lk, List.getElem?_map, Int.toNat_natCast, Option.map_some, List.length_map]
        repeat (refine ⟨by first | assumption | omega | decide | (simp; done) | (simp_all; done) | (simp; omega), ?_⟩)
        refine hk40 _ ?_
        simp only [shA, if_true, if_false, ite_true, ite_false, forall_const, ite_self, eq_self, reduceIte, reduceCtorEq, Nat.reduceEqDiff, Nat.reduceAdd, Nat.reduceLeDiff, Nat.reduceSub, Int.reduceToNat, Nat.reduceBEq, Nat.reduceMul, Nat.reduceLT, Int.reduceLE, Int.reduceLT, Nat.reduceMod, asksOf_lk, List.getElem?_map, Int.toNat_natCast, Option.map_some, List.length_map]
        refine hk38 _ ?_
        refine hn37 (some ([4, 5], none)) _ ?_
        simp only [shA, if_true, if_false, ite_true, ite_false, forall_const, ite_self, eq_self, reduceIte, reduceCtorEq, Nat.reduceEqDiff, Nat.reduceAdd, Nat.reduceLeDiff, Nat.reduceSub, Int.reduceToNat, Nat.reduceBEq, Nat.reduceMul, Nat.reduceLT, Int.reduceLE, Int.reduceLT, Nat.reduceMod, ev, fin2, rv_lSync, asksOf_lk, List.getElem?_map, Int.toNat_natCast, Option.map_some, List.length_map]
        rw [hnone left hno]
        first
          | exact sync_nil L t hnil2
          | (rw [← sync_fin L t (fun k => (L.asks k).map eAsked) (fun k => rfl)]; exact fun _ _ h => h)
    · skip
      obtain ⟨m, hm, rfl⟩ := Option.map_eq_some_iff.1 hj2
      obtain ⟨n, y, rfl, hy, hm1, hm2⟩ := hA.line t jj m hm
      have hnl := (List.getElem?_eq_some_iff.1 hy).1
      have hget := sync_get (askOf L t) left L.logs n y hy hj1
      refine hk21 _ ?_
      simp only [shA, if_true, if_false, ite_true, ite_false, forall_const, ite_self, eq_self, reduceIte, reduceCtorEq, Nat.reduceEqDiff, Nat.reduceAdd, Nat.reduceLeDiff, Nat.reduceSub, Int.reduceToNat, Nat.reduceBEq, Nat.reduceMul, Nat.reduceLT, Int.reduceLE, Int.reduceLT, Nat.reduceMod, asksOf_lk, List.getElem?_map, Int.toNat_natCast, Option.map_some, List.length_map, hget]
      refine hk20 _ ?_
      refine hn19 (some ([1, 2, 4, 20, 22], none)) _ ?_
      refine ev_seq_k fun K41 hn41 hr41 he41 => ?_
      refine ev_cond_k rfl (fun hc1 => ?_) (fun hx => absurd hx (by cases hx))
      clear hc1
      refine hn41 (some ([1, 2, 4, 20], none)) _ ?_
      refine ev_block_k fun K42 hn42 hx42 hr42 he42 => ?_
      refine ev_seq_k fun K43 hn43 hr43 he43 => ?_
      refine ev_ops_k fun K44 hk44 => ?_
      simp only [shA, if_true, if_false, ite_true, ite_false, forall_const, ite_self, eq_self, reduceIte, reduceCtorEq, Nat.reduceEqDiff, Nat.reduceAdd, Nat.reduceLeDiff, Nat.reduceSub, Int.reduceToNat, Nat.reduceBEq, Nat.reduceMul, Nat.reduceLT, Int.reduceLE, Int.reduceLT, Nat.reduceMod, asksOf_lk, List.getElem?_map, Int.toNat_natCast, Option.map_some, List.length_map, hget]
      refine hk44 _ ?_
      refine hn43 (some ([1, 2, 4, 6, 7, 20], none)) _ ?_
      refine ev_drw_k [] (n := 11) fun K45 hk45 => ?_
      simp only [List.take_succ_cons, List.take_zero, St.frzAll, St.frzSh, St.frzRow, St.frzBox, St.frzCells, St.argL, St.arg1, St.res, Sh.pure, St.setO, getA, delA, keepT, St.keep, reduceIte, Nat.reduceEqDiff, reduceCtorEq, Option.bind_some, Option.map_some, List.contains_cons, List.contains_nil, Nat.reduceBEq, Bool.or_false, Bool.or_true, Bool.false_or, beq_self_eq_true, Bool.false_eq_true]
      refine evF_take 2 fun K47 hk47 => ?_
      simp only [shA, if_true, if_false, ite_true, ite_false, forall_const, ite_self, eq_self, reduceIte, reduceCtorEq, Nat.reduceEqDiff, Nat.reduceAdd, Nat.reduceLeDiff, Nat.reduceSub, Int.reduceToNat, Nat.reduceBEq, Nat.reduceMul, Nat.reduceLT, Int.reduceLE, Int.reduceLT, Nat.reduceMod, asksOf_lk, List.getElem?_map, Int.toNat_natCast, Option.map_some, List.length_map, hget]
      repeat (refine ⟨by first | assumption | omega | decide | (simp; done) | (simp_all; done) | (simp; omega), ?_⟩)
      refine hk47 _ _ _ ?_
      refine evF_take 3 fun K48 hk48 => ?_
      simp only [shA, if_true, if_false, ite_true, ite_false, forall_const, ite_self, eq_self, reduceIte, reduceCtorEq, Nat.reduceEqDiff, Nat.reduceAdd, Nat.reduceLeDiff, Nat.reduceSub, Int.reduceToNat, Nat.reduceBEq, Nat.reduceMul, Nat.reduceLT, Int.reduceLE, Int.reduceLT, Nat.reduceMod, asksOf_lk, List.getElem?_map, Int.toNat_natCast, Option.map_some, List.length_map, hget]
      repeat (refine ⟨by first | assumption | omega | decide | (simp; done) | (simp_all; done) | (simp; omega), ?_⟩)
      refine hk48 _ _ _ ?_
      refine evF_take 2 fun K49 hk49 => ?_
      simp only [shA, if_true, if_false, ite_true, ite_false, forall_const, ite_self, eq_self, reduceIte, reduceCtorEq, Nat.reduceEqDiff, Nat.reduceAdd, Nat.reduceLeDiff, Nat.reduceSub, Int.reduceToNat, Nat.reduceBEq, Nat.reduceMul, Nat.reduceLT, Int.reduceLE, Int.reduceLT, Nat.reduceMod, asksOf_lk, List.getElem?_map, Int.toNat_natCast, Option.map_some, List.length_map, hget]
      repeat (refine ⟨by first | assumption | omega | decide | (simp; done) | (simp_all; done) | (simp; omega), ?_⟩)
      refine hk49 _ _ _ ?_
      refine evF_take 2 fun K50 hk50 => ?_
      simp only [shA, if_true, if_false, ite_true, ite_false, forall_const, ite_self, eq_self, reduceIte, reduceCtorEq, Nat.reduceEqDiff, Nat.reduceAdd, Nat.reduceLeDiff, Nat.reduceSub, Int.reduceToNat, Nat.reduceBEq, Nat.reduceMul, Nat.reduceLT, Int.reduceLE, Int.reduceLT, Nat.reduceMod, asksOf_lk, List.getElem?_map, Int.toNat_natCast, Option.map_some, List.length_map, hget]
      repeat (refine ⟨by first | assumption | omega | decide | (simp; done) | (simp_all; done) | (simp; omega), ?_⟩)
      refine hk50 _ _ _ ?_
      simp only [shA, if_true, if_false, ite_true, ite_false, forall_const, ite_self, eq_self, reduceIte, reduceCtorEq, Nat.reduceEqDiff, Nat.reduceAdd, Nat.reduceLeDiff, Nat.reduceSub, Int.reduceToNat, Nat.reduceBEq, Nat.reduceMul, Nat.reduceLT, Int.reduceLE, Int.reduceLT, Nat.reduceMod, asksOf_lk, List.getElem?_map, Int.toNat_natCast, Option.map_some, List.length_map, hget]
      refine hk45 _ ?_
      simp only [List.drop_succ_cons, List.drop_zero]
      refine evL_take 1 fun K51 hk51 => ?_
      simp only [shA, if_true, if_false, ite_true, ite_false, forall_const, ite_self, eq_self, reduceIte, reduceCtorEq, Nat.reduceEqDiff, Nat.reduceAdd, Nat.reduceLeDiff, Nat.reduceSub, Int.reduceToNat, Nat.reduceBEq, Nat.reduceMul, Nat.reduceLT, Int.reduceLE, Int.reduceLT, Nat.reduceMod, asksOf_lk, List.getElem?_map, Int.toNat_natCast, Option.map_some, List.length_map, hget]
      repeat (refine ⟨by first | assumption | omega | decide | (simp; done) | (simp_all; done) | (simp; omega), ?_⟩)
      refine hk51 _ ?_
      simp only [shA, if_true, if_false, ite_true, ite_false, forall_const, ite_self, eq_self, reduceIte, reduceCtorEq, Nat.reduceEqDiff, Nat.reduceAdd, Nat.reduceLeDiff, Nat.reduceSub, Int.reduceToNat, Nat.reduceBEq, Nat.reduceMul, Nat.reduceLT, Int.reduceLE, Int.reduceLT, Nat.reduceMod, asksOf_lk, List.getElem?_map, Int.toNat_natCast, Option.map_some, List.length_map, hget]
      repeat (refine ⟨by first | assumption | omega | decide | (simp; done) | (simp_all; done) | (simp; omega), ?_⟩)
      refine hn42 _ ?_
      refine hn18 (cj) (some ([1, 2, 4, 20], some ([0, 1, 2, 3], 4))) _ ?_ ?_
      all_goals try simp only [St.casts, St.cast, nilS, St.put, St.newO, St.setO, delA, List.getElem?_cons_zero, List.getElem?_cons_succ, List.set_cons_zero, List.set_cons_succ, getA, Nat.reduceEqDiff, reduceCtorEq, keepT, renT, renSh, renC, renO, renOb, idxN, List.map_cons, List.map_nil, List.length_cons, List.length_nil, Nat.reduceAdd, Nat.zero_add, decide_true, St.keep, refsT, refsO, refsL, refsC, refsOk, decide_eq_true_eq, List.contains_cons, List.contains_nil, Bool.or_false, Bool.or_true, Bool.true_or, Bool.false_or, Bool.and_true, Bool.true_and, beq_self_eq_true, Nat.reduceBEq, reduceIte, Nat.blt_eq, Nat.reduceLT, decide_true, Nat.reduceLeDiff, Bool.false_eq_true, Bool.and_eq_true, and_self, true_and, and_true]
      · exact hj5
      · refine ⟨fun z => left z && z != (n : Int), some ((n : Int), sI m), fun j h => hleft j (by simp only [Bool.and_eq_true] at h; exact h.1), ?_⟩
        rw [sync_step (askOf L t) left L.logs n y m hy hm, List.map_set]
end Go.Proofs.Ytlbhfpcbbembgaa
