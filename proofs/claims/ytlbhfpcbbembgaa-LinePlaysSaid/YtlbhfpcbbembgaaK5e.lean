/-
  Layer 5 by shadows: Flush.
-/
import Derived.Test.YtlbhfpcbbembgaaK5d
import Derived.Test.YtlbhfpcbbembgaaView
namespace Go.Proofs.Ytlbhfpcbbembgaa
set_option linter.unusedSimpArgs false
set_option linter.unusedVariables false
open Go.RowKit Go.Maps

set_option maxRecDepth 100000 in
set_option maxHeartbeats 400000 in
theorem cloneAsk_some (b : Nat) (es : Array MapEntry) (clock : Nat) (w : World) (hb : w.heap[b]? = some (.map es clock)) :
    Calls Try.prog 47 #[.map (some b)] w fun e w' => e = .returned (.map (some w.heap.size)) ∧ w' = w.alloc (.map es clock) := by
  have hq := fun w => run_eql_map w 102 _ _ (some b) Try.underlying102
  go_enter Try.func47, Try.ntmps47
  go_wp2
  rw [run_callFunc_extern Try.func61 (by kernel_rfl) (by kernel_rfl) (by kernel_rfl) (e := Extern.MapsClone.clone) (by kernel_rfl), run_maps_clone_sl w 102 hb]
  simp only [Result.andThen]
  rw [Oper.upon_value]
  go_wp2
  rw [run_typeAssert_map_sl _ 102 20 _ _ _ Try.underlying102]
  simp only [Result.andThen]
  rw [Oper.upon_value]
  go_wp2
  go_ret
  exact ⟨rfl, rfl⟩

set_option maxRecDepth 100000 in
set_option maxHeartbeats 400000 in
theorem cloneAsk_none (w : World) :
    Calls Try.prog 47 #[.map none] w fun e w' => e = .returned (.map none) ∧ w' = w := by
  have hq := fun w => run_eql_map w 102 _ _ none Try.underlying102
  go_enter Try.func47, Try.ntmps47
  go_wp2
  go_ret
  exact ⟨rfl, rfl⟩
set_option maxRecDepth 100000 in
set_option maxHeartbeats 400000 in
theorem cloneAsks_some (b : Nat) (es : Array MapEntry) (clock : Nat) (w : World) (hb : w.heap[b]? = some (.map es clock)) :
    Calls Try.prog 48 #[.map (some b)] w fun e w' => e = .returned (.map (some w.heap.size)) ∧ w' = w.alloc (.map es clock) := by
  have hq := fun w => run_eql_map w 57 _ _ (some b) Try.underlying57
  go_enter Try.func48, Try.ntmps48
  go_wp2
  rw [run_callFunc_extern Try.func61 (by kernel_rfl) (by kernel_rfl) (by kernel_rfl) (e := Extern.MapsClone.clone) (by kernel_rfl), run_maps_clone_sl w 57 hb]
  simp only [Result.andThen]
  rw [Oper.upon_value]
  go_wp2
  rw [run_typeAssert_map_sl _ 57 20 _ _ _ Try.underlying57]
  simp only [Result.andThen]
  rw [Oper.upon_value]
  go_wp2
  go_ret
  exact ⟨rfl, rfl⟩

set_option maxRecDepth 100000 in
set_option maxHeartbeats 400000 in
theorem cloneAsks_none (w : World) :
    Calls Try.prog 48 #[.map none] w fun e w' => e = .returned (.map none) ∧ w' = w := by
  have hq := fun w => run_eql_map w 57 _ _ none Try.underlying57
  go_enter Try.func48, Try.ntmps48
  go_wp2
  go_ret
  exact ⟨rfl, rfl⟩


theorem map_cloneAsk (f : Int → Option Sh) (hf : ∀ k, f k ≠ none → 0 ≤ k ∧ k < 4096) : OkMap 47 [.mp 3 f] 3 4096 f := by
  intro w H vs hs hv
  cases hv with
  | cons hx ht =>
    cases ht
    cases hx with
    | mpn h0 =>
      refine Calls.mono (cloneAsk_none w) ?_
      rintro en w' ⟨rfl, rfl⟩
      exact ⟨_, rfl, Grow.refl hs, .inl ⟨rfl, h0⟩⟩
    | @mp _ _ _ b o M F hb hm hN hi hr =>
      obtain ⟨D, ⟨es, clock, rfl, _⟩, _⟩ := hm
      refine Calls.mono (cloneAsk_some b es clock w (hs b _ hb)) ?_
      rintro en w' ⟨rfl, rfl⟩
      refine ⟨_, rfl, (Grow.refl hs).alloc _, .inr ⟨w.heap.size, _, F, rfl, Nat.le_refl _, heap_alloc_new w _, MapOf.tight (n := M) ⟨D, ⟨es, clock, rfl, ‹_›⟩, ‹_›⟩ Try.underlying3 4096 (fun k hk => hf k (fun e => by rw [(hi k).1 e] at hk; cases hk)), by omega, hi, hr⟩⟩
theorem map_cloneAsks (f : Int → Option Sh) (hf : ∀ k, f k ≠ none → 0 ≤ k ∧ k < 4096) : OkMap 48 [.mp 3 f] 3 4096 f := by
  intro w H vs hs hv
  cases hv with
  | cons hx ht =>
    cases ht
    cases hx with
    | mpn h0 =>
      refine Calls.mono (cloneAsks_none w) ?_
      rintro en w' ⟨rfl, rfl⟩
      exact ⟨_, rfl, Grow.refl hs, .inl ⟨rfl, h0⟩⟩
    | @mp _ _ _ b o M F hb hm hN hi hr =>
      obtain ⟨D, ⟨es, clock, rfl, _⟩, _⟩ := hm
      refine Calls.mono (cloneAsks_some b es clock w (hs b _ hb)) ?_
      rintro en w' ⟨rfl, rfl⟩
      refine ⟨_, rfl, (Grow.refl hs).alloc _, .inr ⟨w.heap.size, _, F, rfl, Nat.le_refl _, heap_alloc_new w _, MapOf.tight (n := M) ⟨D, ⟨es, clock, rfl, ‹_›⟩, ‹_›⟩ Try.underlying3 4096 (fun k hk => hf k (fun e => by rw [(hi k).1 e] at hk; cases hk)), by omega, hi, hr⟩⟩

theorem eqsh_nil {t k e : TypeId} (h : Try.prog.underlying t = some (.map k e)) : EqSh t (.v (.map none)) (.v (.map none)) true := by
  intro H E w u1 u2 o1 o2 hs h1 h2
  cases h1; cases h2
  have hq := run_eql_map_nil_sl (P := Try.prog) w t k e none h
  refine ⟨by simpa [eqGuard] using hq, ?_⟩
  simp only [binOp, Sem.run_bind] at hq
  cases hr : Sem.run Try.prog (Op.equal t (.map none) (.map none)) w with
  | ok v w1 =>
    rw [hr] at hq
    simp at hq
    obtain ⟨rfl, rfl⟩ := hq
    simp [eqGuard, binOp, hr]
  | halt x w1 => rw [hr] at hq; simp at hq

def askOf (L : LinesM) (t : Int) : Int → Option Int := (L.asks t).getD fun _ => none
structure AsksOk (L : LinesM) : Prop where
  thr : ∀ t, L.asks t ≠ none → 1 ≤ t ∧ t ≤ 8
  line : ∀ t (k : Int) m, askOf L t k = some m → ∃ (n : Nat) (y : LogV), k = (n : Int) ∧ L.logs[n]? = some y ∧ 0 ≤ m ∧ m ≤ (y.stores.length : Int)
def flushM (L : LinesM) (t a : Int) : LinesM :=
  match L.logs[a.toNat / 8]? with
  | some y => { L with asks := fun s => if s = t then some (fun k => if k = ((a.toNat / 8 : Nat) : Int) then some (y.stores.length : Int) else askOf L t k) else L.asks s }
  | none => L
theorem asksOf_lk (L : LinesM) (t : Int) : (Option.map eAsked (L.asks t)).getD (.mp 3 fun _ => none) = eAsked (askOf L t) := by
  unfold askOf; cases L.asks t <;> rfl

theorem flush_fin (L : LinesM) (t a : Int) (m : Nat) (y : LogV) (hmm : m = a.toNat / 8) (hy : L.logs[m]? = some y) (A B : Int → Option Sh) (h1 : ∀ k, A k = (askOf L t k).map sI) (h2 : ∀ k, B k = (L.asks k).map eAsked) :
    Sh.tup [.agg [.sl 3 0 (L.first.map eWord), .sl 2 0 (L.logs.map eLog), .mp 3 fun j => if j = t then some (.mp 3 fun j => if j = (m : Int) then some (sI y.stores.length) else A j) else B j], sI 0] = .tup [eLines (flushM L t a), sI 0] := by
  obtain rfl : A = fun k => (askOf L t k).map sI := funext h1
  obtain rfl : B = fun k => (L.asks k).map eAsked := funext h2
  have e : (fun j => if j = t then some (Sh.mp 3 fun j => if j = (m : Int) then some (sI y.stores.length) else (askOf L t j).map sI) else (L.asks j).map eAsked) = fun s => (if s = t then some (fun k => if k = (m : Int) then some (y.stores.length : Int) else askOf L t k) else L.asks s).map eAsked := by
    funext j
    by_cases e : j = t
    · simp only [e, if_true, Option.map_some, eAsked]
      congr 2
      funext k
      by_cases e2 : k = (m : Int) <;> simp [e2]
    · simp only [e, if_false]
  unfold flushM
  rw [← hmm, hy]
  simp only [eLines]
  rw [← e]

theorem ok_lFlush_thread (L : LinesM) (t a : Int) (h : ¬ (1 ≤ t ∧ t ≤ 8)) : Ok 29 [eLines L, sI t, sI a] (.tup [eLines L, sI 3]) := by
  refine ok_of_tr Try.func29 tr_lFlush rfl ?_
  unfold evFn sc_lFlush
  refine ev_seq_k fun K1 hn1 hr1 he1 => ?_
  refine ev_ops_k fun K2 hk2 => ?_
  simp only [shA, if_true, if_false, ite_true, ite_false, forall_const, ite_self, eq_self, reduceIte, reduceCtorEq, Nat.reduceEqDiff, Nat.reduceAdd, Nat.reduceLeDiff, Nat.reduceSub, Int.reduceToNat, Nat.reduceBEq, Nat.reduceMul, Nat.reduceLT, Int.reduceLE, Int.reduceLT, Nat.reduceMod]
  refine hk2 _ ?_
  refine hn1 (some ([1, 2, 3, 6], none)) _ ?_
  refine ev_seq_k fun K3 hn3 hr3 he3 => ?_
  refine ev_block_k fun K4 hn4 hx4 hr4 he4 => ?_
  refine ev_seq_k fun K5 hn5 hr5 he5 => ?_
  refine ev_ops_k fun K6 hk6 => ?_
  refine evL_take 1 fun K7 hk7 => ?_
  simp only [shA, if_true, if_false, ite_true, ite_false, forall_const, ite_self, eq_self, reduceIte, reduceCtorEq, Nat.reduceEqDiff, Nat.reduceAdd, Nat.reduceLeDiff, Nat.reduceSub, Int.reduceToNat, Nat.reduceBEq, Nat.reduceMul, Nat.reduceLT, Int.reduceLE, Int.reduceLT, Nat.reduceMod]
  refine hk7 _ ?_
  refine evL_take 1 fun K8 hk8 => ?_
  simp only [shA, if_true, if_false, ite_true, ite_false, forall_const, ite_self, eq_self, reduceIte, reduceCtorEq, Nat.reduceEqDiff, Nat.reduceAdd, Nat.reduceLeDiff, Nat.reduceSub, Int.reduceToNat, Nat.reduceBEq, Nat.reduceMul, Nat.reduceLT, Int.reduceLE, Int.reduceLT, Nat.reduceMod]
  refine Or.inl (Or.inl ⟨_, ok_lThread t, ?_⟩)
  refine hk8 _ ?_
  simp only [shA, if_true, if_false, ite_true, ite_false, forall_const, ite_self, eq_self, reduceIte, reduceCtorEq, Nat.reduceEqDiff, Nat.reduceAdd, Nat.reduceLeDiff, Nat.reduceSub, Int.reduceToNat, Nat.reduceBEq, Nat.reduceMul, Nat.reduceLT, Int.reduceLE, Int.reduceLT, Nat.reduceMod]
  refine hk6 _ ?_
  refine hn5 (some ([1, 2, 3, 6, 10], none)) _ ?_
  refine ev_cond_k rfl (fun hc0 => ?_) (fun hx => absurd hx (by simp [h] at hx))
  clear hc0
  refine ev_seq_k fun K9 hn9 hr9 he9 => ?_
  refine ev_ops_k fun K10 hk10 => ?_
  refine evL_take 1 fun K11 hk11 => ?_
  simp only [shA, if_true, if_false, ite_true, ite_false, forall_const, ite_self, eq_self, reduceIte, reduceCtorEq, Nat.reduceEqDiff, Nat.reduceAdd, Nat.reduceLeDiff, Nat.reduceSub, Int.reduceToNat, Nat.reduceBEq, Nat.reduceMul, Nat.reduceLT, Int.reduceLE, Int.reduceLT, Nat.reduceMod]
  repeat (refine ⟨by first | assumption | omega | decide | (simp; done) | (simp_all; done) | (simp; omega), ?_⟩)
  refine hk11 _ ?_
  refine evL_take 1 fun K12 hk12 => ?_
  simp only [shA, if_true, if_false, ite_true, ite_false, forall_const, ite_self, eq_self, reduceIte, reduceCtorEq, Nat.reduceEqDiff, Nat.reduceAdd, Nat.reduceLeDiff, Nat.reduceSub, Int.reduceToNat, Nat.reduceBEq, Nat.reduceMul, Nat.reduceLT, Int.reduceLE, Int.reduceLT, Nat.reduceMod]
  repeat (refine ⟨by first | assumption | omega | decide | (simp; done) | (simp_all; done) | (simp; omega), ?_⟩)
  refine hk12 _ ?_
  simp only [shA, if_true, if_false, ite_true, ite_false, forall_const, ite_self, eq_self, reduceIte, reduceCtorEq, Nat.reduceEqDiff, Nat.reduceAdd, Nat.reduceLeDiff, Nat.reduceSub, Int.reduceToNat, Nat.reduceBEq, Nat.reduceMul, Nat.reduceLT, Int.reduceLE, Int.reduceLT, Nat.reduceMod]
  refine hk10 _ ?_
  refine hn9 (some ([6, 7], none)) _ ?_
  refine hr4 _ ?_
  refine hr3 _ ?_
  simp only [shA, if_true, if_false, ite_true, ite_false, forall_const, ite_self, eq_self, reduceIte, reduceCtorEq, Nat.reduceEqDiff, Nat.reduceAdd, Nat.reduceLeDiff, Nat.reduceSub, Int.reduceToNat, Nat.reduceBEq, Nat.reduceMul, Nat.reduceLT, Int.reduceLE, Int.reduceLT, Nat.reduceMod, ev, fin, rv_lFlush]
theorem ok_lFlush_place (L : LinesM) (t a : Int) (ht : 1 ≤ t ∧ t ≤ 8) (h : ¬ (0 ≤ a ∧ a < (L.first.length : Int))) : Ok 29 [eLines L, sI t, sI a] (.tup [eLines L, sI 1]) := by
  refine ok_of_tr Try.func29 tr_lFlush rfl ?_
  unfold evFn sc_lFlush
  refine ev_seq_k fun K1 hn1 hr1 he1 => ?_
  refine ev_ops_k fun K2 hk2 => ?_
  simp only [shA, if_true, if_false, ite_true, ite_false, forall_const, ite_self, eq_self, reduceIte, reduceCtorEq, Nat.reduceEqDiff, Nat.reduceAdd, Nat.reduceLeDiff, Nat.reduceSub, Int.reduceToNat, Nat.reduceBEq, Nat.reduceMul, Nat.reduceLT, Int.reduceLE, Int.reduceLT, Nat.reduceMod]
  refine hk2 _ ?_
  refine hn1 (some ([1, 2, 3, 6], none)) _ ?_
  refine ev_seq_k fun K3 hn3 hr3 he3 => ?_
  refine ev_block_k fun K4 hn4 hx4 hr4 he4 => ?_
  refine ev_seq_k fun K5 hn5 hr5 he5 => ?_
  refine ev_ops_k fun K6 hk6 => ?_
  refine evL_take 1 fun K7 hk7 => ?_
  simp only [shA, if_true, if_false, ite_true, ite_false, forall_const, ite_self, eq_self, reduceIte, reduceCtorEq, Nat.reduceEqDiff, Nat.reduceAdd, Nat.reduceLeDiff, Nat.reduceSub, Int.reduceToNat, Nat.reduceBEq, Nat.reduceMul, Nat.reduceLT, Int.reduceLE, Int.reduceLT, Nat.reduceMod]
  refine hk7 _ ?_
  refine evL_take 1 fun K8 hk8 => ?_
  simp only [shA, if_true, if_false, ite_true, ite_false, forall_const, ite_self, eq_self, reduceIte, reduceCtorEq, Nat.reduceEqDiff, Nat.reduceAdd, Nat.reduceLeDiff, Nat.reduceSub, Int.reduceToNat, Nat.reduceBEq, Nat.reduceMul, Nat.reduceLT, Int.reduceLE, Int.reduceLT, Nat.reduceMod]
  refine Or.inl (Or.inl ⟨_, ok_lThread t, ?_⟩)
  refine hk8 _ ?_
  simp only [shA, if_true, if_false, ite_true, ite_false, forall_const, ite_self, eq_self, reduceIte, reduceCtorEq, Nat.reduceEqDiff, Nat.reduceAdd, Nat.reduceLeDiff, Nat.reduceSub, Int.reduceToNat, Nat.reduceBEq, Nat.reduceMul, Nat.reduceLT, Int.reduceLE, Int.reduceLT, Nat.reduceMod]
  refine hk6 _ ?_
  refine hn5 (some ([1, 2, 3, 6, 10], none)) _ ?_
  refine ev_cond_k rfl (fun hx => absurd hx (by simp [ht] at hx)) (fun hc0 => ?_)
  clear hc0
  refine ev_seq_k fun K9 hn9 hr9 he9 => ?_
  refine ev_ops_k fun K10 hk10 => ?_
  refine evL_take 1 fun K11 hk11 => ?_
  simp only [shA, if_true, if_false, ite_true, ite_false, forall_const, ite_self, eq_self, reduceIte, reduceCtorEq, Nat.reduceEqDiff, Nat.reduceAdd, Nat.reduceLeDiff, Nat.reduceSub, Int.reduceToNat, Nat.reduceBEq, Nat.reduceMul, Nat.reduceLT, Int.reduceLE, Int.reduceLT, Nat.reduceMod]
  repeat (refine ⟨by first | assumption | omega | decide | (simp; done) | (simp_all; done) | (simp; omega), ?_⟩)
  refine hk11 _ ?_
  refine evL_take 1 fun K12 hk12 => ?_
  simp only [shA, if_true, if_false, ite_true, ite_false, forall_const, ite_self, eq_self, reduceIte, reduceCtorEq, Nat.reduceEqDiff, Nat.reduceAdd, Nat.reduceLeDiff, Nat.reduceSub, Int.reduceToNat, Nat.reduceBEq, Nat.reduceMul, Nat.reduceLT, Int.reduceLE, Int.reduceLT, Nat.reduceMod]
  refine hk12 _ ?_
  refine evL_take 1 fun K13 hk13 => ?_
  simp only [shA, if_true, if_false, ite_true, ite_false, forall_const, ite_self, eq_self, reduceIte, reduceCtorEq, Nat.reduceEqDiff, Nat.reduceAdd, Nat.reduceLeDiff, Nat.reduceSub, Int.reduceToNat, Nat.reduceBEq, Nat.reduceMul, Nat.reduceLT, Int.reduceLE, Int.reduceLT, Nat.reduceMod]
  refine Or.inl (Or.inl ⟨_, ok_lHas L a, ?_⟩)
  refine hk13 _ ?_
  simp only [shA, if_true, if_false, ite_true, ite_false, forall_const, ite_self, eq_self, reduceIte, reduceCtorEq, Nat.reduceEqDiff, Nat.reduceAdd, Nat.reduceLeDiff, Nat.reduceSub, Int.reduceToNat, Nat.reduceBEq, Nat.reduceMul, Nat.reduceLT, Int.reduceLE, Int.reduceLT, Nat.reduceMod]
  refine hk10 _ ?_
  refine hn9 (some ([1, 2, 3, 6, 15], none)) _ ?_
  refine ev_cond_k rfl (fun hc1 => ?_) (fun hx => absurd hx (by simp [h] at hx))
  clear hc1
  refine ev_seq_k fun K14 hn14 hr14 he14 => ?_
  refine ev_ops_k fun K15 hk15 => ?_
  refine evL_take 1 fun K16 hk16 => ?_
  simp only [shA, if_true, if_false, ite_true, ite_false, forall_const, ite_self, eq_self, reduceIte, reduceCtorEq, Nat.reduceEqDiff, Nat.reduceAdd, Nat.reduceLeDiff, Nat.reduceSub, Int.reduceToNat, Nat.reduceBEq, Nat.reduceMul, Nat.reduceLT, Int.reduceLE, Int.reduceLT, Nat.reduceMod]
  repeat (refine ⟨by first | assumption | omega | decide | (simp; done) | (simp_all; done) | (simp; omega), ?_⟩)
  refine hk16 _ ?_
  refine evL_take 1 fun K17 hk17 => ?_
  simp only [shA, if_true, if_false, ite_true, ite_false, forall_const, ite_self, eq_self, reduceIte, reduceCtorEq, Nat.reduceEqDiff, Nat.reduceAdd, Nat.reduceLeDiff, Nat.reduceSub, Int.reduceToNat, Nat.reduceBEq, Nat.reduceMul, Nat.reduceLT, Int.reduceLE, Int.reduceLT, Nat.reduceMod]
  repeat (refine ⟨by first | assumption | omega | decide | (simp; done) | (simp_all; done) | (simp; omega), ?_⟩)
  refine hk17 _ ?_
  simp only [shA, if_true, if_false, ite_true, ite_false, forall_const, ite_self, eq_self, reduceIte, reduceCtorEq, Nat.reduceEqDiff, Nat.reduceAdd, Nat.reduceLeDiff, Nat.reduceSub, Int.reduceToNat, Nat.reduceBEq, Nat.reduceMul, Nat.reduceLT, Int.reduceLE, Int.reduceLT, Nat.reduceMod]
  refine hk15 _ ?_
  refine hn14 (some ([6, 7], none)) _ ?_
  refine hr4 _ ?_
  refine hr3 _ ?_
  simp only [shA, if_true, if_false, ite_true, ite_false, forall_const, ite_self, eq_self, reduceIte, reduceCtorEq, Nat.reduceEqDiff, Nat.reduceAdd, Nat.reduceLeDiff, Nat.reduceSub, Int.reduceToNat, Nat.reduceBEq, Nat.reduceMul, Nat.reduceLT, Int.reduceLE, Int.reduceLT, Nat.reduceMod, ev, fin, rv_lFlush]
set_option maxHeartbeats 4000000 in
theorem ok_lFlush (L : LinesM) (t a : Int) (hL : LinesOk L) (hA : AsksOk L) (ht : 1 ≤ t ∧ t ≤ 8) (ha : 0 ≤ a ∧ a < (L.first.length : Int)) : Ok 29 [eLines L, sI t, sI a] (.tup [eLines (flushM L t a), sI 0]) := by
  refine ok_of_tr Try.func29 tr_lFlush rfl ?_
  have hmany := hL.many
  have hmost := hL.most
  obtain ⟨m, hmm⟩ : ∃ m, m = a.toNat / 8 := ⟨_, rfl⟩
  have hq : IntKind.i64.wrap (a.tdiv 8) = (m : Int) := by rw [IntKind.wrap_i64, Int.tdiv_eq_ediv_of_nonneg ha.1]; omega
  have hml : m < L.logs.length := by omega
  obtain ⟨y, hy⟩ : ∃ y, L.logs[m]? = some y := ⟨L.logs[m], by simp⟩
  have hs1 : ∀ k, (askOf L t k).map sI ≠ none → 0 ≤ k ∧ k < 4096 := fun k hk => by
    cases e : askOf L t k with
    | none => rw [e] at hk; exact absurd rfl hk
    | some v =>
      obtain ⟨n, y, rfl, h1, _⟩ := hA.line t k v e
      have := (List.getElem?_eq_some_iff.1 h1).1
      omega
  have hs2 : ∀ k, (L.asks k).map eAsked ≠ none → 0 ≤ k ∧ k < 4096 := fun k hk => by
    have := hA.thr k (fun e => hk (by rw [e]; rfl))
    omega
  unfold evFn sc_lFlush
  refine ev_seq_k fun K1 hn1 hr1 he1 => ?_
  refine ev_ops_k fun K2 hk2 => ?_
  simp only [shA, if_true, if_false, ite_true, ite_false, forall_const, ite_self, eq_self, reduceIte, reduceCtorEq, Nat.reduceEqDiff, Nat.reduceAdd, Nat.reduceLeDiff, Nat.reduceSub, Int.reduceToNat, Nat.reduceBEq, Nat.reduceMul, Nat.reduceLT, Int.reduceLE, Int.reduceLT, Nat.reduceMod, asksOf_lk, List.getElem?_map, Int.toNat_natCast, Option.map_some, List.length_map, hq, hy]
  refine hk2 _ ?_
  refine hn1 (some ([1, 2, 3, 6], none)) _ ?_
  refine ev_seq_k fun K3 hn3 hr3 he3 => ?_
  refine ev_block_k fun K4 hn4 hx4 hr4 he4 => ?_
  refine ev_seq_k fun K5 hn5 hr5 he5 => ?_
  refine ev_ops_k fun K6 hk6 => ?_
  refine evL_take 1 fun K7 hk7 => ?_
  simp only [shA, if_true, if_false, ite_true, ite_false, forall_const, ite_self, eq_self, reduceIte, reduceCtorEq, Nat.reduceEqDiff, Nat.reduceAdd, Nat.reduceLeDiff, Nat.reduceSub, Int.reduceToNat, Nat.reduceBEq, Nat.reduceMul, Nat.reduceLT, Int.reduceLE, Int.reduceLT, Nat.reduceMod, asksOf_lk, List.getElem?_map, Int.toNat_natCast, Option.map_some, List.length_map, hq, hy]
  refine hk7 _ ?_
  refine evL_take 1 fun K8 hk8 => ?_
  simp only [shA, if_true, if_false, ite_true, ite_false, forall_const, ite_self, eq_self, reduceIte, reduceCtorEq, Nat.reduceEqDiff, Nat.reduceAdd, Nat.reduceLeDiff, Nat.reduceSub, Int.reduceToNat, Nat.reduceBEq, Nat.reduceMul, Nat.reduceLT, Int.reduceLE, Int.reduceLT, Nat.reduceMod, asksOf_lk, List.getElem?_map, Int.toNat_natCast, Option.map_some, List.length_map, hq, hy]
  refine Or.inl (Or.inl ⟨_, ok_lThread t, ?_⟩)
  refine hk8 _ ?_
  simp only [shA, if_true, if_false, ite_true, ite_false, forall_const, ite_self, eq_self, reduceIte, reduceCtorEq, Nat.reduceEqDiff, Nat.reduceAdd, Nat.reduceLeDiff, Nat.reduceSub, Int.reduceToNat, Nat.reduceBEq, Nat.reduceMul, Nat.reduceLT, Int.reduceLE, Int.reduceLT, Nat.reduceMod, asksOf_lk, List.getElem?_map, Int.toNat_natCast, Option.map_some, List.length_map, hq, hy]
  refine hk6 _ ?_
  refine hn5 (some ([1, 2, 3, 6, 10], none)) _ ?_
  refine ev_cond_k rfl (fun hx => absurd hx (by simp [ht] at hx)) (fun hc0 => ?_)
  clear hc0
  refine ev_seq_k fun K9 hn9 hr9 he9 => ?_
  refine ev_ops_k fun K10 hk10 => ?_
  refine evL_take 1 fun K11 hk11 => ?_
  simp only [shA, if_true, if_false, ite_true, ite_false, forall_const, ite_self, eq_self, reduceIte, reduceCtorEq, Nat.reduceEqDiff, Nat.reduceAdd, Nat.reduceLeDiff, Nat.reduceSub, Int.reduceToNat, Nat.reduceBEq, Nat.reduceMul, Nat.reduceLT, Int.reduceLE, Int.reduceLT, Nat.reduceMod, asksOf_lk, List.getElem?_map, Int.toNat_natCast, Option.map_some, List.length_map, hq, hy]
  repeat (refine ⟨by first | assumption | omega | decide | (simp; done) | (simp_all; done) | (simp; omega), ?_⟩)
  refine hk11 _ ?_
  refine evL_take 1 fun K12 hk12 => ?_
  simp only [shA, if_true, if_false, ite_true, ite_false, forall_const, ite_self, eq_self, reduceIte, reduceCtorEq, Nat.reduceEqDiff, Nat.reduceAdd, Nat.reduceLeDiff, Nat.reduceSub, Int.reduceToNat, Nat.reduceBEq, Nat.reduceMul, Nat.reduceLT, Int.reduceLE, Int.reduceLT, Nat.reduceMod, asksOf_lk, List.getElem?_map, Int.toNat_natCast, Option.map_some, List.length_map, hq, hy]
  refine hk12 _ ?_
  refine evL_take 1 fun K13 hk13 => ?_
  simp only [shA, if_true, if_false, ite_true, ite_false, forall_const, ite_self, eq_self, reduceIte, reduceCtorEq, Nat.reduceEqDiff, Nat.reduceAdd, Nat.reduceLeDiff, Nat.reduceSub, Int.reduceToNat, Nat.reduceBEq, Nat.reduceMul, Nat.reduceLT, Int.reduceLE, Int.reduceLT, Nat.reduceMod, asksOf_lk, List.getElem?_map, Int.toNat_natCast, Option.map_some, List.length_map, hq, hy]
  refine Or.inl (Or.inl ⟨_, ok_lHas L a, ?_⟩)
  refine hk13 _ ?_
  simp only [shA, if_true, if_false, ite_true, ite_false, forall_const, ite_self, eq_self, reduceIte, reduceCtorEq, Nat.reduceEqDiff, Nat.reduceAdd, Nat.reduceLeDiff, Nat.reduceSub, Int.reduceToNat, Nat.reduceBEq, Nat.reduceMul, Nat.reduceLT, Int.reduceLE, Int.reduceLT, Nat.reduceMod, asksOf_lk, List.getElem?_map, Int.toNat_natCast, Option.map_some, List.length_map, hq, hy]
  refine hk10 _ ?_
  refine hn9 (some ([1, 2, 3, 6, 15], none)) _ ?_
  refine ev_cond_k rfl (fun hx => absurd hx (by simp [ha] at hx)) (fun hc1 => ?_)
  clear hc1
  refine hn4 _ ?_
  refine hn3 (some ([1, 2, 3, 6], none)) _ ?_
  refine ev_seq_k fun K14 hn14 hr14 he14 => ?_
  refine ev_ops_k fun K15 hk15 => ?_
  refine evL_take 2 fun K16 hk16 => ?_
  simp only [shA, if_true, if_false, ite_true, ite_false, forall_const, ite_self, eq_self, reduceIte, reduceCtorEq, Nat.reduceEqDiff, Nat.reduceAdd, Nat.reduceLeDiff, Nat.reduceSub, Int.reduceToNat, Nat.reduceBEq, Nat.reduceMul, Nat.reduceLT, Int.reduceLE, Int.reduceLT, Nat.reduceMod, asksOf_lk, List.getElem?_map, Int.toNat_natCast, Option.map_some, List.length_map, hq, hy]
  repeat (refine ⟨by first | assumption | omega | decide | (simp; done) | (simp_all; done) | (simp; omega), ?_⟩)
  refine hk16 _ ?_
  refine evL_take 2 fun K17 hk17 => ?_
  simp only [shA, if_true, if_false, ite_true, ite_false, forall_const, ite_self, eq_self, reduceIte, reduceCtorEq, Nat.reduceEqDiff, Nat.reduceAdd, Nat.reduceLeDiff, Nat.reduceSub, Int.reduceToNat, Nat.reduceBEq, Nat.reduceMul, Nat.reduceLT, Int.reduceLE, Int.reduceLT, Nat.reduceMod, asksOf_lk, List.getElem?_map, Int.toNat_natCast, Option.map_some, List.length_map, hq, hy]
  repeat (refine ⟨by first | assumption | omega | decide | (simp; done) | (simp_all; done) | (simp; omega), ?_⟩)
  refine hk17 _ ?_
  refine evL_take 1 fun K18 hk18 => ?_
  simp only [shA, if_true, if_false, ite_true, ite_false, forall_const, ite_self, eq_self, reduceIte, reduceCtorEq, Nat.reduceEqDiff, Nat.reduceAdd, Nat.reduceLeDiff, Nat.reduceSub, Int.reduceToNat, Nat.reduceBEq, Nat.reduceMul, Nat.reduceLT, Int.reduceLE, Int.reduceLT, Nat.reduceMod, asksOf_lk, List.getElem?_map, Int.toNat_natCast, Option.map_some, List.length_map, hq, hy]
  refine Or.inl (Or.inr (Or.inr ⟨_, _, _, map_cloneAsk _ hs1, ?_, fun hnil2 => ?_⟩))
  · skip
    refine hk18 _ ?_
    simp only [shA, if_true, if_false, ite_true, ite_false, forall_const, ite_self, eq_self, reduceIte, reduceCtorEq, Nat.reduceEqDiff, Nat.reduceAdd, Nat.reduceLeDiff, Nat.reduceSub, Int.reduceToNat, Nat.reduceBEq, Nat.reduceMul, Nat.reduceLT, Int.reduceLE, Int.reduceLT, Nat.reduceMod, asksOf_lk, List.getElem?_map, Int.toNat_natCast, Option.map_some, List.length_map, hq, hy]
    refine hk15 _ ?_
    refine hn14 (some ([1, 2, 3, 6, 8], none)) _ ?_
    refine ev_seq_k fun K19 hn19 hr19 he19 => ?_
    refine ev_seq_k fun K20 hn20 hr20 he20 => ?_
    refine ev_ops_k fun K21 hk21 => ?_
    refine evL_take 1 fun K22 hk22 => ?_
    simp only [shA, if_true, if_false, ite_true, ite_false, forall_const, ite_self, eq_self, reduceIte, reduceCtorEq, Nat.reduceEqDiff, Nat.reduceAdd, Nat.reduceLeDiff, Nat.reduceSub, Int.reduceToNat, Nat.reduceBEq, Nat.reduceMul, Nat.reduceLT, Int.reduceLE, Int.reduceLT, Nat.reduceMod, asksOf_lk, List.getElem?_map, Int.toNat_natCast, Option.map_some, List.length_map, hq, hy]
    refine hk22 _ ?_
    simp only [shA, if_true, if_false, ite_true, ite_false, forall_const, ite_self, eq_self, reduceIte, reduceCtorEq, Nat.reduceEqDiff, Nat.reduceAdd, Nat.reduceLeDiff, Nat.reduceSub, Int.reduceToNat, Nat.reduceBEq, Nat.reduceMul, Nat.reduceLT, Int.reduceLE, Int.reduceLT, Nat.reduceMod, asksOf_lk, List.getElem?_map, Int.toNat_natCast, Option.map_some, List.length_map, hq, hy]
    refine Or.inr ⟨⟨_, _, Try.underlying102⟩, ?_⟩
    refine hk21 _ ?_
    refine hn20 (some ([1, 2, 3, 6, 8, 27], none)) _ ?_
    refine ev_cond_k rfl (fun hx => absurd hx (by cases hx)) (fun hc2 => ?_)
    clear hc2
    refine hn19 (some ([1, 2, 3, 6, 8], none)) _ ?_
    refine ev_seq_k fun K23 hn23 hr23 he23 => ?_
    refine ev_ops_k fun K24 hk24 => ?_
    refine evL_take 2 fun K25 hk25 => ?_
    simp only [shA, if_true, if_false, ite_true, ite_false, forall_const, ite_self, eq_self, reduceIte, reduceCtorEq, Nat.reduceEqDiff, Nat.reduceAdd, Nat.reduceLeDiff, Nat.reduceSub, Int.reduceToNat, Nat.reduceBEq, Nat.reduceMul, Nat.reduceLT, Int.reduceLE, Int.reduceLT, Nat.reduceMod, asksOf_lk, List.getElem?_map, Int.toNat_natCast, Option.map_some, List.length_map, hq, hy]
    repeat (refine ⟨by first | assumption | omega | decide | (simp; done) | (simp_all; done) | (simp; omega), ?_⟩)
    refine hk25 _ ?_
    simp only [shA, if_true, if_false, ite_true, ite_false, forall_const, ite_self, eq_self, reduceIte, reduceCtorEq, Nat.reduceEqDiff, Nat.reduceAdd, Nat.reduceLeDiff, Nat.reduceSub, Int.reduceToNat, Nat.reduceBEq, Nat.reduceMul, Nat.reduceLT, Int.reduceLE, Int.reduceLT, Nat.reduceMod, asksOf_lk, List.getElem?_map, Int.toNat_natCast, Option.map_some, List.length_map, hq, hy]
    refine hk24 _ ?_
    refine hn23 (some ([1, 3, 6, 8, 9], none)) _ ?_
    refine ev_seq_k fun K26 hn26 hr26 he26 => ?_
    refine ev_ops_k fun K27 hk27 => ?_
    refine evL_take 4 fun K28 hk28 => ?_
    simp only [shA, if_true, if_false, ite_true, ite_false, forall_const, ite_self, eq_self, reduceIte, reduceCtorEq, Nat.reduceEqDiff, Nat.reduceAdd, Nat.reduceLeDiff, Nat.reduceSub, Int.reduceToNat, Nat.reduceBEq, Nat.reduceMul, Nat.reduceLT, Int.reduceLE, Int.reduceLT, Nat.reduceMod, asksOf_lk, List.getElem?_map, Int.toNat_natCast, Option.map_some, List.length_map, hq, hy]
    repeat (refine ⟨by first | assumption | omega | decide | (simp; done) | (simp_all; done) | (simp; omega), ?_⟩)
    refine hk28 _ ?_
    refine evL_take 2 fun K29 hk29 => ?_
    simp only [shA, if_true, if_false, ite_true, ite_false, forall_const, ite_self, eq_self, reduceIte, reduceCtorEq, Nat.reduceEqDiff, Nat.reduceAdd, Nat.reduceLeDiff, Nat.reduceSub, Int.reduceToNat, Nat.reduceBEq, Nat.reduceMul, Nat.reduceLT, Int.reduceLE, Int.reduceLT, Nat.reduceMod, asksOf_lk, List.getElem?_map, Int.toNat_natCast, Option.map_some, List.length_map, hq, hy]
    repeat (refine ⟨by first | assumption | omega | decide | (simp; done) | (simp_all; done) | (simp; omega), ?_⟩)
    refine hk29 _ ?_
    refine evL_take 2 fun K30 hk30 => ?_
    simp only [shA, if_true, if_false, ite_true, ite_false, forall_const, ite_self, eq_self, reduceIte, reduceCtorEq, Nat.reduceEqDiff, Nat.reduceAdd, Nat.reduceLeDiff, Nat.reduceSub, Int.reduceToNat, Nat.reduceBEq, Nat.reduceMul, Nat.reduceLT, Int.reduceLE, Int.reduceLT, Nat.reduceMod, asksOf_lk, List.getElem?_map, Int.toNat_natCast, Option.map_some, List.length_map, hq, hy]
    repeat (refine ⟨by first | assumption | omega | decide | (simp; done) | (simp_all; done) | (simp; omega), ?_⟩)
    refine hk30 _ ?_
    simp only [shA, if_true, if_false, ite_true, ite_false, forall_const, ite_self, eq_self, reduceIte, reduceCtorEq, Nat.reduceEqDiff, Nat.reduceAdd, Nat.reduceLeDiff, Nat.reduceSub, Int.reduceToNat, Nat.reduceBEq, Nat.reduceMul, Nat.reduceLT, Int.reduceLE, Int.reduceLT, Nat.reduceMod, asksOf_lk, List.getElem?_map, Int.toNat_natCast, Option.map_some, List.length_map, hq, hy]
    repeat (refine ⟨by first | assumption | omega | decide | (simp; done) | (simp_all; done) | (simp; omega), ?_⟩)
    refine Or.inl ?_
    refine hk27 _ ?_
    refine hn26 (some ([1, 3, 6, 8], none)) _ ?_
    refine ev_seq_k fun K31 hn31 hr31 he31 => ?_
    refine ev_ops_k fun K32 hk32 => ?_
    refine evL_take 2 fun K33 hk33 => ?_
    simp only [shA, if_true, if_false, ite_true, ite_false, forall_const, ite_self, eq_self, reduceIte, reduceCtorEq, Nat.reduceEqDiff, Nat.reduceAdd, Nat.reduceLeDiff, Nat.reduceSub, Int.reduceToNat, Nat.reduceBEq, Nat.reduceMul, Nat.reduceLT, Int.reduceLE, Int.reduceLT, Nat.reduceMod, asksOf_lk, List.getElem?_map, Int.toNat_natCast, Option.map_some, List.length_map, hq, hy]
    repeat (refine ⟨by first | assumption | omega | decide | (simp; done) | (simp_all; done) | (simp; omega), ?_⟩)
    refine hk33 _ ?_
    refine evL_take 1 fun K34 hk34 => ?_
    simp only [shA, if_true, if_false, ite_true, ite_false, forall_const, ite_self, eq_self, reduceIte, reduceCtorEq, Nat.reduceEqDiff, Nat.reduceAdd, Nat.reduceLeDiff, Nat.reduceSub, Int.reduceToNat, Nat.reduceBEq, Nat.reduceMul, Nat.reduceLT, Int.reduceLE, Int.reduceLT, Nat.reduceMod, asksOf_lk, List.getElem?_map, Int.toNat_natCast, Option.map_some, List.length_map, hq, hy]
    refine Or.inl (Or.inr (Or.inr ⟨_, _, _, map_cloneAsks _ hs2, ?_, fun hnil3 => ?_⟩))
    · skip
      refine hk34 _ ?_
      simp only [shA, if_true, if_false, ite_true, ite_false, forall_const, ite_self, eq_self, reduceIte, reduceCtorEq, Nat.reduceEqDiff, Nat.reduceAdd, Nat.reduceLeDiff, Nat.reduceSub, Int.reduceToNat, Nat.reduceBEq, Nat.reduceMul, Nat.reduceLT, Int.reduceLE, Int.reduceLT, Nat.reduceMod, asksOf_lk, List.getElem?_map, Int.toNat_natCast, Option.map_some, List.length_map, hq, hy]
      repeat (refine ⟨by first | assumption | omega | decide | (simp; done) | (simp_all; done) | (simp; omega), ?_⟩)
      refine hk32 _ ?_
      refine hn31 (some ([1, 3, 6, 8], none)) _ ?_
      refine ev_seq_k fun K35 hn35 hr35 he35 => ?_
      refine ev_seq_k fun K36 hn36 hr36 he36 => ?_
      refine ev_ops_k fun K37 hk37 => ?_
      refine evL_take 2 fun K38 hk38 => ?_
      simp only [shA, if_true, if_false, ite_true, ite_false, forall_const, ite_self, eq_self, reduceIte, reduceCtorEq, Nat.reduceEqDiff, Nat.reduceAdd, Nat.reduceLeDiff, Nat.reduceSub, Int.reduceToNat, Nat.reduceBEq, Nat.reduceMul, Nat.reduceLT, Int.reduceLE, Int.reduceLT, Nat.reduceMod, asksOf_lk, List.getElem?_map, Int.toNat_natCast, Option.map_some, List.length_map, hq, hy]
      repeat (refine ⟨by first | assumption | omega | decide | (simp; done) | (simp_all; done) | (simp; omega), ?_⟩)
      refine hk38 _ ?_
      simp only [shA, if_true, if_false, ite_true, ite_false, forall_const, ite_self, eq_self, reduceIte, reduceCtorEq, Nat.reduceEqDiff, Nat.reduceAdd, Nat.reduceLeDiff, Nat.reduceSub, Int.reduceToNat, Nat.reduceBEq, Nat.reduceMul, Nat.reduceLT, Int.reduceLE, Int.reduceLT, Nat.reduceMod, asksOf_lk, List.getElem?_map, Int.toNat_natCast, Option.map_some, List.length_map, hq, hy]
      refine Or.inr ⟨⟨_, _, Try.underlying57⟩, ?_⟩
      refine hk37 _ ?_
      refine hn36 (some ([1, 3, 6, 8, 46], none)) _ ?_
      refine ev_cond_k rfl (fun hx => absurd hx (by cases hx)) (fun hc3 => ?_)
      clear hc3
      refine hn35 (some ([1, 3, 6, 8], none)) _ ?_
      refine ev_seq_k fun K39 hn39 hr39 he39 => ?_
      refine ev_ops_k fun K40 hk40 => ?_
      refine evL_take 2 fun K41 hk41 => ?_
      simp only [shA, if_true, if_false, ite_true, ite_false, forall_const, ite_self, eq_self, reduceIte, reduceCtorEq, Nat.reduceEqDiff, Nat.reduceAdd, Nat.reduceLeDiff, Nat.reduceSub, Int.reduceToNat, Nat.reduceBEq, Nat.reduceMul, Nat.reduceLT, Int.reduceLE, Int.reduceLT, Nat.reduceMod, asksOf_lk, List.getElem?_map, Int.toNat_natCast, Option.map_some, List.length_map, hq, hy]
      repeat (refine ⟨by first | assumption | omega | decide | (simp; done) | (simp_all; done) | (simp; omega), ?_⟩)
      refine hk41 _ ?_
      simp only [shA, if_true, if_false, ite_true, ite_false, forall_const, ite_self, eq_self, reduceIte, reduceCtorEq, Nat.reduceEqDiff, Nat.reduceAdd, Nat.reduceLeDiff, Nat.reduceSub, Int.reduceToNat, Nat.reduceBEq, Nat.reduceMul, Nat.reduceLT, Int.reduceLE, Int.reduceLT, Nat.reduceMod, asksOf_lk, List.getElem?_map, Int.toNat_natCast, Option.map_some, List.length_map, hq, hy]
      repeat (refine ⟨by first | assumption | omega | decide | (simp; done) | (simp_all; done) | (simp; omega), ?_⟩)
      refine Or.inl ?_
      refine hk40 _ ?_
      refine hn39 (some ([3, 6], none)) _ ?_
      refine ev_seq_k fun K42 hn42 hr42 he42 => ?_
      refine ev_ops_k fun K43 hk43 => ?_
      refine evL_take 1 fun K44 hk44 => ?_
      simp only [shA, if_true, if_false, ite_true, ite_false, forall_const, ite_self, eq_self, reduceIte, reduceCtorEq, Nat.reduceEqDiff, Nat.reduceAdd, Nat.reduceLeDiff, Nat.reduceSub, Int.reduceToNat, Nat.reduceBEq, Nat.reduceMul, Nat.reduceLT, Int.reduceLE, Int.reduceLT, Nat.reduceMod, asksOf_lk, List.getElem?_map, Int.toNat_natCast, Option.map_some, List.length_map, hq, hy]
      repeat (refine ⟨by first | assumption | omega | decide | (simp; done) | (simp_all; done) | (simp; omega), ?_⟩)
      refine hk44 _ ?_
      refine evL_take 1 fun K45 hk45 => ?_
      simp only [shA, if_true, if_false, ite_true, ite_false, forall_const, ite_self, eq_self, reduceIte, reduceCtorEq, Nat.reduceEqDiff, Nat.reduceAdd, Nat.reduceLeDiff, Nat.reduceSub, Int.reduceToNat, Nat.reduceBEq, Nat.reduceMul, Nat.reduceLT, Int.reduceLE, Int.reduceLT, Nat.reduceMod, asksOf_lk, List.getElem?_map, Int.toNat_natCast, Option.map_some, List.length_map, hq, hy]
      repeat (refine ⟨by first | assumption | omega | decide | (simp; done) | (simp_all; done) | (simp; omega), ?_⟩)
      refine hk45 _ ?_
      simp only [shA, if_true, if_false, ite_true, ite_false, forall_const, ite_self, eq_self, reduceIte, reduceCtorEq, Nat.reduceEqDiff, Nat.reduceAdd, Nat.reduceLeDiff, Nat.reduceSub, Int.reduceToNat, Nat.reduceBEq, Nat.reduceMul, Nat.reduceLT, Int.reduceLE, Int.reduceLT, Nat.reduceMod, asksOf_lk, List.getElem?_map, Int.toNat_natCast, Option.map_some, List.length_map, hq, hy]
      refine hk43 _ ?_
      refine hn42 (some ([6, 7], none)) _ ?_
      simp only [shA, if_true, if_false, ite_true, ite_false, forall_const, ite_self, eq_self, reduceIte, reduceCtorEq, Nat.reduceEqDiff, Nat.reduceAdd, Nat.reduceLeDiff, Nat.reduceSub, Int.reduceToNat, Nat.reduceBEq, Nat.reduceMul, Nat.reduceLT, Int.reduceLE, Int.reduceLT, Nat.reduceMod, ev, fin, rv_lFlush, asksOf_lk, List.getElem?_map, Int.toNat_natCast, Option.map_some, List.length_map, hq, hy]
      refine flush_fin L t a m y hmm hy _ _ (fun k => ?_) (fun k => ?_) <;> first | rfl | exact (hnil2 k).symm | exact (hnil3 k).symm
    · skip
      refine hk34 _ ?_
      simp only [shA, if_true, if_false, ite_true, ite_false, forall_const, ite_self, eq_self, reduceIte, reduceCtorEq, Nat.reduceEqDiff, Nat.reduceAdd, Nat.reduceLeDiff, Nat.reduceSub, Int.reduceToNat, Nat.reduceBEq, Nat.reduceMul, Nat.reduceLT, Int.reduceLE, Int.reduceLT, Nat.reduceMod, asksOf_lk, List.getElem?_map, Int.toNat_natCast, Option.map_some, List.length_map, hq, hy]
      repeat (refine ⟨by first | assumption | omega | decide | (simp; done) | (simp_all; done) | (simp; omega), ?_⟩)
      refine hk32 _ ?_
      refine hn31 (some ([1, 3, 6, 8], none)) _ ?_
      refine ev_seq_k fun K46 hn46 hr46 he46 => ?_
      refine ev_seq_k fun K47 hn47 hr47 he47 => ?_
      refine ev_ops_k fun K48 hk48 => ?_
      refine evL_take 2 fun K49 hk49 => ?_
      simp only [shA, if_true, if_false, ite_true, ite_false, forall_const, ite_self, eq_self, reduceIte, reduceCtorEq, Nat.reduceEqDiff, Nat.reduceAdd, Nat.reduceLeDiff, Nat.reduceSub, Int.reduceToNat, Nat.reduceBEq, Nat.reduceMul, Nat.reduceLT, Int.reduceLE, Int.reduceLT, Nat.reduceMod, asksOf_lk, List.getElem?_map, Int.toNat_natCast, Option.map_some, List.length_map, hq, hy]
      repeat (refine ⟨by first | assumption | omega | decide | (simp; done) | (simp_all; done) | (simp; omega), ?_⟩)
      refine hk49 _ ?_
      simp only [shA, if_true, if_false, ite_true, ite_false, forall_const, ite_self, eq_self, reduceIte, reduceCtorEq, Nat.reduceEqDiff, Nat.reduceAdd, Nat.reduceLeDiff, Nat.reduceSub, Int.reduceToNat, Nat.reduceBEq, Nat.reduceMul, Nat.reduceLT, Int.reduceLE, Int.reduceLT, Nat.reduceMod, asksOf_lk, List.getElem?_map, Int.toNat_natCast, Option.map_some, List.length_map, hq, hy]
      refine Or.inl ⟨_, eqsh_nil Try.underlying57, ?_⟩
      refine hk48 _ ?_
      refine hn47 (some ([1, 3, 6, 8, 46], none)) _ ?_
      refine ev_cond_k rfl (fun hc3 => ?_) (fun hx => absurd hx (by cases hx))
      clear hc3
      refine ev_ops_k fun K50 hk50 => ?_
      simp only [shA, if_true, if_false, ite_true, ite_false, forall_const, ite_self, eq_self, reduceIte, reduceCtorEq, Nat.reduceEqDiff, Nat.reduceAdd, Nat.reduceLeDiff, Nat.reduceSub, Int.reduceToNat, Nat.reduceBEq, Nat.reduceMul, Nat.reduceLT, Int.reduceLE, Int.reduceLT, Nat.reduceMod, asksOf_lk, List.getElem?_map, Int.toNat_natCast, Option.map_some, List.length_map, hq, hy]
      repeat (refine ⟨by first | assumption | omega | decide | (simp; done) | (simp_all; done) | (simp; omega), ?_⟩)
      refine hk50 _ ?_
      refine hn46 (some ([1, 3, 6, 8], none)) _ ?_
      refine ev_seq_k fun K51 hn51 hr51 he51 => ?_
      refine ev_ops_k fun K52 hk52 => ?_
      refine evL_take 2 fun K53 hk53 => ?_
      simp only [shA, if_true, if_false, ite_true, ite_false, forall_const, ite_self, eq_self, reduceIte, reduceCtorEq, Nat.reduceEqDiff, Nat.reduceAdd, Nat.reduceLeDiff, Nat.reduceSub, Int.reduceToNat, Nat.reduceBEq, Nat.reduceMul, Nat.reduceLT, Int.reduceLE, Int.reduceLT, Nat.reduceMod, asksOf_lk, List.getElem?_map, Int.toNat_natCast, Option.map_some, List.length_map, hq, hy]
      repeat (refine ⟨by first | assumption | omega | decide | (simp; done) | (simp_all; done) | (simp; omega), ?_⟩)
      refine hk53 _ ?_
      simp only [shA, if_true, if_false, ite_true, ite_false, forall_const, ite_self, eq_self, reduceIte, reduceCtorEq, Nat.reduceEqDiff, Nat.reduceAdd, Nat.reduceLeDiff, Nat.reduceSub, Int.reduceToNat, Nat.reduceBEq, Nat.reduceMul, Nat.reduceLT, Int.reduceLE, Int.reduceLT, Nat.reduceMod, asksOf_lk, List.getElem?_map, Int.toNat_natCast, Option.map_some, List.length_map, hq, hy]
      repeat (refine ⟨by first | assumption | omega | decide | (simp; done) | (simp_all; done) | (simp; omega), ?_⟩)
      refine Or.inl ?_
      refine hk52 _ ?_
      refine hn51 (some ([3, 6], none)) _ ?_
      refine ev_seq_k fun K54 hn54 hr54 he54 => ?_
      refine ev_ops_k fun K55 hk55 => ?_
      refine evL_take 1 fun K56 hk56 => ?_
      simp only [shA, if_true, if_false, ite_true, ite_false, forall_const, ite_self, eq_self, reduceIte, reduceCtorEq, Nat.reduceEqDiff, Nat.reduceAdd, Nat.reduceLeDiff, Nat.reduceSub, Int.reduceToNat, Nat.reduceBEq, Nat.reduceMul, Nat.reduceLT, Int.reduceLE, Int.reduceLT, Nat.reduceMod, asksOf_lk, List.getElem?_map, Int.toNat_natCast, Option.map_some, List.length_map, hq, hy]
      repeat (refine ⟨by first | assumption | omega | decide | (simp; done) | (simp_all; done) | (simp; omega), ?_⟩)
      refine hk56 _ ?_
      refine evL_take 1 fun K57 hk57 => ?_
      simp only [shA, if_true, if_false, ite_true, ite_false, forall_const, ite_self, eq_self, reduceIte, reduceCtorEq, Nat.reduceEqDiff, Nat.reduceAdd, Nat.reduceLeDiff, Nat.reduceSub, Int.reduceToNat, Nat.reduceBEq, Nat.reduceMul, Nat.reduceLT, Int.reduceLE, Int.reduceLT, Nat.reduceMod, asksOf_lk, List.getElem?_map, Int.toNat_natCast, Option.map_some, List.length_map, hq, hy]
      repeat (refine ⟨by first | assumption | omega | decide | (simp; done) | (simp_all; done) | (simp; omega), ?_⟩)
      refine hk57 _ ?_
      simp only [shA, if_true, if_false, ite_true, ite_false, forall_const, ite_self, eq_self, reduceIte, reduceCtorEq, Nat.reduceEqDiff, Nat.reduceAdd, Nat.reduceLeDiff, Nat.reduceSub, Int.reduceToNat, Nat.reduceBEq, Nat.reduceMul, Nat.reduceLT, Int.reduceLE, Int.reduceLT, Nat.reduceMod, asksOf_lk, List.getElem?_map, Int.toNat_natCast, Option.map_some, List.length_map, hq, hy]
      refine hk55 _ ?_
      refine hn54 (some ([6, 7], none)) _ ?_
      simp only [shA, if_true, if_false, ite_true, ite_false, forall_const, ite_self, eq_self, reduceIte, reduceCtorEq, Nat.reduceEqDiff, Nat.reduceAdd, Nat.reduceLeDiff, Nat.reduceSub, Int.reduceToNat, Nat.reduceBEq, Nat.reduceMul, Nat.reduceLT, Int.reduceLE, Int.reduceLT, Nat.reduceMod, ev, fin, rv_lFlush, asksOf_lk, List.getElem?_map, Int.toNat_natCast, Option.map_some, List.length_map, hq, hy]
      refine flush_fin L t a m y hmm hy _ _ (fun k => ?_) (fun k => ?_) <;> first | rfl | exact (hnil2 k).symm | exact (hnil3 k).symm
  · skip
    refine hk18 _ ?_
    simp only [shA, if_true, if_false, ite_true, ite_false, forall_const, ite_self, eq_self, reduceIte, reduceCtorEq, Nat.reduceEqDiff, Nat.reduceAdd, Nat.reduceLeDiff, Nat.reduceSub, Int.reduceToNat, Nat.reduceBEq, Nat.reduceMul, Nat.reduceLT, Int.reduceLE, Int.reduceLT, Nat.reduceMod, asksOf_lk, List.getElem?_map, Int.toNat_natCast, Option.map_some, List.length_map, hq, hy]
    refine hk15 _ ?_
    refine hn14 (some ([1, 2, 3, 6, 8], none)) _ ?_
    refine ev_seq_k fun K58 hn58 hr58 he58 => ?_
    refine ev_seq_k fun K59 hn59 hr59 he59 => ?_
    refine ev_ops_k fun K60 hk60 => ?_
    refine evL_take 1 fun K61 hk61 => ?_
    simp only [shA, if_true, if_false, ite_true, ite_false, forall_const, ite_self, eq_self, reduceIte, reduceCtorEq, Nat.reduceEqDiff, Nat.reduceAdd, Nat.reduceLeDiff, Nat.reduceSub, Int.reduceToNat, Nat.reduceBEq, Nat.reduceMul, Nat.reduceLT, Int.reduceLE, Int.reduceLT, Nat.reduceMod, asksOf_lk, List.getElem?_map, Int.toNat_natCast, Option.map_some, List.length_map, hq, hy]
    refine hk61 _ ?_
    simp only [shA, if_true, if_false, ite_true, ite_false, forall_const, ite_self, eq_self, reduceIte, reduceCtorEq, Nat.reduceEqDiff, Nat.reduceAdd, Nat.reduceLeDiff, Nat.reduceSub, Int.reduceToNat, Nat.reduceBEq, Nat.reduceMul, Nat.reduceLT, Int.reduceLE, Int.reduceLT, Nat.reduceMod, asksOf_lk, List.getElem?_map, Int.toNat_natCast, Option.map_some, List.length_map, hq, hy]
    refine Or.inl ⟨_, eqsh_nil Try.underlying102, ?_⟩
    refine hk60 _ ?_
    refine hn59 (some ([1, 2, 3, 6, 8, 27], none)) _ ?_
    refine ev_cond_k rfl (fun hc2 => ?_) (fun hx => absurd hx (by cases hx))
    clear hc2
    refine ev_ops_k fun K62 hk62 => ?_
    simp only [shA, if_true, if_false, ite_true, ite_false, forall_const, ite_self, eq_self, reduceIte, reduceCtorEq, Nat.reduceEqDiff, Nat.reduceAdd, Nat.reduceLeDiff, Nat.reduceSub, Int.reduceToNat, Nat.reduceBEq, Nat.reduceMul, Nat.reduceLT, Int.reduceLE, Int.reduceLT, Nat.reduceMod, asksOf_lk, List.getElem?_map, Int.toNat_natCast, Option.map_some, List.length_map, hq, hy]
    refine hk62 _ ?_
    refine hn58 (some ([1, 2, 3, 6, 8], none)) _ ?_
    refine ev_seq_k fun K63 hn63 hr63 he63 => ?_
    refine ev_ops_k fun K64 hk64 => ?_
    refine evL_take 2 fun K65 hk65 => ?_
    simp only [shA, if_true, if_false, ite_true, ite_false, forall_const, ite_self, eq_self, reduceIte, reduceCtorEq, Nat.reduceEqDiff, Nat.reduceAdd, Nat.reduceLeDiff, Nat.reduceSub, Int.reduceToNat, Nat.reduceBEq, Nat.reduceMul, Nat.reduceLT, Int.reduceLE, Int.reduceLT, Nat.reduceMod, asksOf_lk, List.getElem?_map, Int.toNat_natCast, Option.map_some, List.length_map, hq, hy]
    repeat (refine ⟨by first | assumption | omega | decide | (simp; done) | (simp_all; done) | (simp; omega), ?_⟩)
    refine hk65 _ ?_
    simp only [shA, if_true, if_false, ite_true, ite_false, forall_const, ite_self, eq_self, reduceIte, reduceCtorEq, Nat.reduceEqDiff, Nat.reduceAdd, Nat.reduceLeDiff, Nat.reduceSub, Int.reduceToNat, Nat.reduceBEq, Nat.reduceMul, Nat.reduceLT, Int.reduceLE, Int.reduceLT, Nat.reduceMod, asksOf_lk, List.getElem?_map, Int.toNat_natCast, Option.map_some, List.length_map, hq, hy]
    refine hk64 _ ?_
    refine hn63 (some ([1, 3, 6, 8, 9], none)) _ ?_
    refine ev_seq_k fun K66 hn66 hr66 he66 => ?_
    refine ev_ops_k fun K67 hk67 => ?_
    refine evL_take 4 fun K68 hk68 => ?_
    simp only [shA, if_true, if_false, ite_true, ite_false, forall_const, ite_self, eq_self, reduceIte, reduceCtorEq, Nat.reduceEqDiff, Nat.reduceAdd, Nat.reduceLeDiff, Nat.reduceSub, Int.reduceToNat, Nat.reduceBEq, Nat.reduceMul, Nat.reduceLT, Int.reduceLE, Int.reduceLT, Nat.reduceMod, asksOf_lk, List.getElem?_map, Int.toNat_natCast, Option.map_some, List.length_map, hq, hy]
    repeat (refine ⟨by first | assumption | omega | decide | (simp; done) | (simp_all; done) | (simp; omega), ?_⟩)
    refine hk68 _ ?_
    refine evL_take 2 fun K69 hk69 => ?_
    simp only [shA, if_true, if_false, ite_true, ite_false, forall_const, ite_self, eq_self, reduceIte, reduceCtorEq, Nat.reduceEqDiff, Nat.reduceAdd, Nat.reduceLeDiff, Nat.reduceSub, Int.reduceToNat, Nat.reduceBEq, Nat.reduceMul, Nat.reduceLT, Int.reduceLE, Int.reduceLT, Nat.reduceMod, asksOf_lk, List.getElem?_map, Int.toNat_natCast, Option.map_some, List.length_map, hq, hy]
    repeat (refine ⟨by first | assumption | omega | decide | (simp; done) | (simp_all; done) | (simp; omega), ?_⟩)
    refine hk69 _ ?_
    refine evL_take 2 fun K70 hk70 => ?_
    simp only [shA, if_true, if_false, ite_true, ite_false, forall_const, ite_self, eq_self, reduceIte, reduceCtorEq, Nat.reduceEqDiff, Nat.reduceAdd, Nat.reduceLeDiff, Nat.reduceSub, Int.reduceToNat, Nat.reduceBEq, Nat.reduceMul, Nat.reduceLT, Int.reduceLE, Int.reduceLT, Nat.reduceMod, asksOf_lk, List.getElem?_map, Int.toNat_natCast, Option.map_some, List.length_map, hq, hy]
    repeat (refine ⟨by first | assumption | omega | decide | (simp; done) | (simp_all; done) | (simp; omega), ?_⟩)
    refine hk70 _ ?_
    simp only [shA, if_true, if_false, ite_true, ite_false, forall_const, ite_self, eq_self, reduceIte, reduceCtorEq, Nat.reduceEqDiff, Nat.reduceAdd, Nat.reduceLeDiff, Nat.reduceSub, Int.reduceToNat, Nat.reduceBEq, Nat.reduceMul, Nat.reduceLT, Int.reduceLE, Int.reduceLT, Nat.reduceMod, asksOf_lk, List.getElem?_map, Int.toNat_natCast, Option.map_some, List.length_map, hq, hy]
    repeat (refine ⟨by first | assumption | omega | decide | (simp; done) | (simp_all; done) | (simp; omega), ?_⟩)
    refine Or.inl ?_
    refine hk67 _ ?_
    refine hn66 (some ([1, 3, 6, 8], none)) _ ?_
    refine ev_seq_k fun K71 hn71 hr71 he71 => ?_
    refine ev_ops_k fun K72 hk72 => ?_
    refine evL_take 2 fun K73 hk73 => ?_
    simp only [shA, if_true, if_false, ite_true, ite_false, forall_const, ite_self, eq_self, reduceIte, reduceCtorEq, Nat.reduceEqDiff, Nat.reduceAdd, Nat.reduceLeDiff, Nat.reduceSub, Int.reduceToNat, Nat.reduceBEq, Nat.reduceMul, Nat.reduceLT, Int.reduceLE, Int.reduceLT, Nat.reduceMod, asksOf_lk, List.getElem?_map, Int.toNat_natCast, Option.map_some, List.length_map, hq, hy]
    repeat (refine ⟨by first | assumption | omega | decide | (simp; done) | (simp_all; done) | (simp; omega), ?_⟩)
    refine hk73 _ ?_
    refine evL_take 1 fun K74 hk74 => ?_
    simp only [shA, if_true, if_false, ite_true, ite_false, forall_const, ite_self, eq_self, reduceIte, reduceCtorEq, Nat.reduceEqDiff, Nat.reduceAdd, Nat.reduceLeDiff, Nat.reduceSub, Int.reduceToNat, Nat.reduceBEq, Nat.reduceMul, Nat.reduceLT, Int.reduceLE, Int.reduceLT, Nat.reduceMod, asksOf_lk, List.getElem?_map, Int.toNat_natCast, Option.map_some, List.length_map, hq, hy]
    refine Or.inl (Or.inr (Or.inr ⟨_, _, _, map_cloneAsks _ hs2, ?_, fun hnil3 => ?_⟩))
    · skip
      refine hk74 _ ?_
      simp only [shA, if_true, if_false, ite_true, ite_false, forall_const, ite_self, eq_self, reduceIte, reduceCtorEq, Nat.reduceEqDiff, Nat.reduceAdd, Nat.reduceLeDiff, Nat.reduceSub, Int.reduceToNat, Nat.reduceBEq, Nat.reduceMul, Nat.reduceLT, Int.reduceLE, Int.reduceLT, Nat.reduceMod, asksOf_lk, List.getElem?_map, Int.toNat_natCast, Option.map_some, List.length_map, hq, hy]
      repeat (refine ⟨by first | assumption | omega | decide | (simp; done) | (simp_all; done) | (simp; omega), ?_⟩)
      refine hk72 _ ?_
      refine hn71 (some ([1, 3, 6, 8], none)) _ ?_
      refine ev_seq_k fun K75 hn75 hr75 he75 => ?_
      refine ev_seq_k fun K76 hn76 hr76 he76 => ?_
      refine ev_ops_k fun K77 hk77 => ?_
      refine evL_take 2 fun K78 hk78 => ?_
      simp only [shA, if_true, if_false, ite_true, ite_false, forall_const, ite_self, eq_self, reduceIte, reduceCtorEq, Nat.reduceEqDiff, Nat.reduceAdd, Nat.reduceLeDiff, Nat.reduceSub, Int.reduceToNat, Nat.reduceBEq, Nat.reduceMul, Nat.reduceLT, Int.reduceLE, Int.reduceLT, Nat.reduceMod, asksOf_lk, List.getElem?_map, Int.toNat_natCast, Option.map_some, List.length_map, hq, hy]
      repeat (refine ⟨by first | assumption | omega | decide | (simp; done) | (simp_all; done) | (simp; omega), ?_⟩)
      refine hk78 _ ?_
      simp only [shA, if_true, if_false, ite_true, ite_false, forall_const, ite_self, eq_self, reduceIte, reduceCtorEq, Nat.reduceEqDiff, Nat.reduceAdd, Nat.reduceLeDiff, Nat.reduceSub, Int.reduceToNat, Nat.reduceBEq, Nat.reduceMul, Nat.reduceLT, Int.reduceLE, Int.reduceLT, Nat.reduceMod, asksOf_lk, List.getElem?_map, Int.toNat_natCast, Option.map_some, List.length_map, hq, hy]
      refine Or.inr ⟨⟨_, _, Try.underlying57⟩, ?_⟩
      refine hk77 _ ?_
      refine hn76 (some ([1, 3, 6, 8, 46], none)) _ ?_
      refine ev_cond_k rfl (fun hx => absurd hx (by cases hx)) (fun hc3 => ?_)
      clear hc3
      refine hn75 (some ([1, 3, 6, 8], none)) _ ?_
      refine ev_seq_k fun K79 hn79 hr79 he79 => ?_
      refine ev_ops_k fun K80 hk80 => ?_
      refine evL_take 2 fun K81 hk81 => ?_
      simp only [shA, if_true, if_false, ite_true, ite_false, forall_const, ite_self, eq_self, reduceIte, reduceCtorEq, Nat.reduceEqDiff, Nat.reduceAdd, Nat.reduceLeDiff, Nat.reduceSub, Int.reduceToNat, Nat.reduceBEq, Nat.reduceMul, Nat.reduceLT, Int.reduceLE, Int.reduceLT, Nat.reduceMod, asksOf_lk, List.getElem?_map, Int.toNat_natCast, Option.map_some, List.length_map, hq, hy]
      repeat (refine ⟨by first | assumption | omega | decide | (simp; done) | (simp_all; done) | (simp; omega), ?_⟩)
      refine hk81 _ ?_
      simp only [shA, if_true, if_false, ite_true, ite_false, forall_const, ite_self, eq_self, reduceIte, reduceCtorEq, Nat.reduceEqDiff, Nat.reduceAdd, Nat.reduceLeDiff, Nat.reduceSub, Int.reduceToNat, Nat.reduceBEq, Nat.reduceMul, Nat.reduceLT, Int.reduceLE, Int.reduceLT, Nat.reduceMod, asksOf_lk, List.getElem?_map, Int.toNat_natCast, Option.map_some, List.length_map, hq, hy]
      repeat (refine ⟨by first | assumption | omega | decide | (simp; done) | (simp_all; done) | (simp; omega), ?_⟩)
      refine Or.inl ?_
      refine hk80 _ ?_
      refine hn79 (some ([3, 6], none)) _ ?_
      refine ev_seq_k fun K82 hn82 hr82 he82 => ?_
      refine ev_ops_k fun K83 hk83 => ?_
      refine evL_take 1 fun K84 hk84 => ?_
      simp only [shA, if_true, if_false, ite_true, ite_false, forall_const, ite_self, eq_self, reduceIte, reduceCtorEq, Nat.reduceEqDiff, Nat.reduceAdd, Nat.reduceLeDiff, Nat.reduceSub, Int.reduceToNat, Nat.reduceBEq, Nat.reduceMul, Nat.reduceLT, Int.reduceLE, Int.reduceLT, Nat.reduceMod, asksOf_lk, List.getElem?_map, Int.toNat_natCast, Option.map_some, List.length_map, hq, hy]
      repeat (refine ⟨by first | assumption | omega | decide | (simp; done) | (simp_all; done) | (simp; omega), ?_⟩)
      refine hk84 _ ?_
      refine evL_take 1 fun K85 hk85 => ?_
      simp only [shA, if_true, if_false, ite_true, ite_false, forall_const, ite_self, eq_self, reduceIte, reduceCtorEq, Nat.reduceEqDiff, Nat.reduceAdd, Nat.reduceLeDiff, Nat.reduceSub, Int.reduceToNat, Nat.reduceBEq, Nat.reduceMul, Nat.reduceLT, Int.reduceLE, Int.reduceLT, Nat.reduceMod, asksOf_lk, List.getElem?_map, Int.toNat_natCast, Option.map_some, List.length_map, hq, hy]
      repeat (refine ⟨by first | assumption | omega | decide | (simp; done) | (simp_all; done) | (simp; omega), ?_⟩)
      refine hk85 _ ?_
      simp only [shA, if_true, if_false, ite_true, ite_false, forall_const, ite_self, eq_self, reduceIte, reduceCtorEq, Nat.reduceEqDiff, Nat.reduceAdd, Nat.reduceLeDiff, Nat.reduceSub, Int.reduceToNat, Nat.reduceBEq, Nat.reduceMul, Nat.reduceLT, Int.reduceLE, Int.reduceLT, Nat.reduceMod, asksOf_lk, List.getElem?_map, Int.toNat_natCast, Option.map_some, List.length_map, hq, hy]
      refine hk83 _ ?_
      refine hn82 (some ([6, 7], none)) _ ?_
      simp only [shA, if_true, if_false, ite_true, ite_false, forall_const, ite_self, eq_self, reduceIte, reduceCtorEq, Nat.reduceEqDiff, Nat.reduceAdd, Nat.reduceLeDiff, Nat.reduceSub, Int.reduceToNat, Nat.reduceBEq, Nat.reduceMul, Nat.reduceLT, Int.reduceLE, Int.reduceLT, Nat.reduceMod, ev, fin, rv_lFlush, asksOf_lk, List.getElem?_map, Int.toNat_natCast, Option.map_some, List.length_map, hq, hy]
      refine flush_fin L t a m y hmm hy _ _ (fun k => ?_) (fun k => ?_) <;> first | rfl | exact (hnil2 k).symm | exact (hnil3 k).symm
    · skip
      refine hk74 _ ?_
      simp only [shA, if_true, if_false, ite_true, ite_false, forall_const, ite_self, eq_self, reduceIte, reduceCtorEq, Nat.reduceEqDiff, Nat.reduceAdd, Nat.reduceLeDiff, Nat.reduceSub, Int.reduceToNat, Nat.reduceBEq, Nat.reduceMul, Nat.reduceLT, Int.reduceLE, Int.reduceLT, Nat.reduceMod, asksOf_lk, List.getElem?_map, Int.toNat_natCast, Option.map_some, List.length_map, hq, hy]
      repeat (refine ⟨by first | assumption | omega | decide | (simp; done) | (simp_all; done) | (simp; omega), ?_⟩)
      refine hk72 _ ?_
      refine hn71 (some ([1, 3, 6, 8], none)) _ ?_
      refine ev_seq_k fun K86 hn86 hr86 he86 => ?_
      refine ev_seq_k fun K87 hn87 hr87 he87 => ?_
      refine ev_ops_k fun K88 hk88 => ?_
      refine evL_take 2 fun K89 hk89 => ?_
      simp only [shA, if_true, if_false, ite_true, ite_false, forall_const, ite_self, eq_self, reduceIte, reduceCtorEq, Nat.reduceEqDiff, Nat.reduceAdd, Nat.reduceLeDiff, Nat.reduceSub, Int.reduceToNat, Nat.reduceBEq, Nat.reduceMul, Nat.reduceLT, Int.reduceLE, Int.reduceLT, Nat.reduceMod, asksOf_lk, List.getElem?_map, Int.toNat_natCast, Option.map_some, List.length_map, hq, hy]
      repeat (refine ⟨by first | assumption | omega | decide | (simp; done) | (simp_all; done) | (simp; omega), ?_⟩)
      refine hk89 _ ?_
      simp only [shA, if_true, if_false, ite_true, ite_false, forall_const, ite_self, eq_self, reduceIte, reduceCtorEq, Nat.reduceEqDiff, Nat.reduceAdd, Nat.reduceLeDiff, Nat.reduceSub, Int.reduceToNat, Nat.reduceBEq, Nat.reduceMul, Nat.reduceLT, Int.reduceLE, Int.reduceLT, Nat.reduceMod, asksOf_lk, List.getElem?_map, Int.toNat_natCast, Option.map_some, List.length_map, hq, hy]
      refine Or.inl ⟨_, eqsh_nil Try.underlying57, ?_⟩
      refine hk88 _ ?_
      refine hn87 (some ([1, 3, 6, 8, 46], none)) _ ?_
      refine ev_cond_k rfl (fun hc3 => ?_) (fun hx => absurd hx (by cases hx))
      clear hc3
      refine ev_ops_k fun K90 hk90 => ?_
      simp only [shA, if_true, if_false, ite_true, ite_false, forall_const, ite_self, eq_self, reduceIte, reduceCtorEq, Nat.reduceEqDiff, Nat.reduceAdd, Nat.reduceLeDiff, Nat.reduceSub, Int.reduceToNat, Nat.reduceBEq, Nat.reduceMul, Nat.reduceLT, Int.reduceLE, Int.reduceLT, Nat.reduceMod, asksOf_lk, List.getElem?_map, Int.toNat_natCast, Option.map_some, List.length_map, hq, hy]
      repeat (refine ⟨by first | assumption | omega | decide | (simp; done) | (simp_all; done) | (simp; omega), ?_⟩)
      refine hk90 _ ?_
      refine hn86 (some ([1, 3, 6, 8], none)) _ ?_
      refine ev_seq_k fun K91 hn91 hr91 he91 => ?_
      refine ev_ops_k fun K92 hk92 => ?_
      refine evL_take 2 fun K93 hk93 => ?_
      simp only [shA, if_true, if_false, ite_true, ite_false, forall_const, ite_self, eq_self, reduceIte, reduceCtorEq, Nat.reduceEqDiff, Nat.reduceAdd, Nat.reduceLeDiff, Nat.reduceSub, Int.reduceToNat, Nat.reduceBEq, Nat.reduceMul, Nat.reduceLT, Int.reduceLE, Int.reduceLT, Nat.reduceMod, asksOf_lk, List.getElem?_map, Int.toNat_natCast, Option.map_some, List.length_map, hq, hy]
      repeat (refine ⟨by first | assumption | omega | decide | (simp; done) | (simp_all; done) | (simp; omega), ?_⟩)
      refine hk93 _ ?_
      simp only [shA, if_true, if_false, ite_true, ite_false, forall_const, ite_self, eq_self, reduceIte, reduceCtorEq, Nat.reduceEqDiff, Nat.reduceAdd, Nat.reduceLeDiff, Nat.reduceSub, Int.reduceToNat, Nat.reduceBEq, Nat.reduceMul, Nat.reduceLT, Int.reduceLE, Int.reduceLT, Nat.reduceMod, asksOf_lk, List.getElem?_map, Int.toNat_natCast, Option.map_some, List.length_map, hq, hy]
      repeat (refine ⟨by first | assumption | omega | decide | (simp; done) | (simp_all; done) | (simp; omega), ?_⟩)
      refine Or.inl ?_
      refine hk92 _ ?_
      refine hn91 (some ([3, 6], none)) _ ?_
      refine ev_seq_k fun K94 hn94 hr94 he94 => ?_
      refine ev_ops_k fun K95 hk95 => ?_
      refine evL_take 1 fun K96 hk96 => ?_
      simp only [shA, if_true, if_false, ite_true, ite_false, forall_const, ite_self, eq_self, reduceIte, reduceCtorEq, Nat.reduceEqDiff, Nat.reduceAdd, Nat.reduceLeDiff, Nat.reduceSub, Int.reduceToNat, Nat.reduceBEq, Nat.reduceMul, Nat.reduceLT, Int.reduceLE, Int.reduceLT, Nat.reduceMod, asksOf_lk, List.getElem?_map, Int.toNat_natCast, Option.map_some, List.length_map, hq, hy]
      repeat (refine ⟨by first | assumption | omega | decide | (simp; done) | (simp_all; done) | (simp; omega), ?_⟩)
      refine hk96 _ ?_
      refine evL_take 1 fun K97 hk97 => ?_
      simp only [shA, if_true, if_false, ite_true, ite_false, forall_const, ite_self, eq_self, reduceIte, reduceCtorEq, Nat.reduceEqDiff, Nat.reduceAdd, Nat.reduceLeDiff, Nat.reduceSub, Int.reduceToNat, Nat.reduceBEq, Nat.reduceMul, Nat.reduceLT, Int.reduceLE, Int.reduceLT, Nat.reduceMod, asksOf_lk, List.getElem?_map, Int.toNat_natCast, Option.map_some, List.length_map, hq, hy]
      repeat (refine ⟨by first | assumption | omega | decide | (simp; done) | (simp_all; done) | (simp; omega), ?_⟩)
      refine hk97 _ ?_
      simp only [shA, if_true, if_false, ite_true, ite_false, forall_const, ite_self, eq_self, reduceIte, reduceCtorEq, Nat.reduceEqDiff, Nat.reduceAdd, Nat.reduceLeDiff, Nat.reduceSub, Int.reduceToNat, Nat.reduceBEq, Nat.reduceMul, Nat.reduceLT, Int.reduceLE, Int.reduceLT, Nat.reduceMod, asksOf_lk, List.getElem?_map, Int.toNat_natCast, Option.map_some, List.length_map, hq, hy]
      refine hk95 _ ?_
      refine hn94 (some ([6, 7], none)) _ ?_
      simp only [shA, if_true, if_false, ite_true, ite_false, forall_const, ite_self, eq_self, reduceIte, reduceCtorEq, Nat.reduceEqDiff, Nat.reduceAdd, Nat.reduceLeDiff, Nat.reduceSub, Int.reduceToNat, Nat.reduceBEq, Nat.reduceMul, Nat.reduceLT, Int.reduceLE, Int.reduceLT, Nat.reduceMod, ev, fin, rv_lFlush, asksOf_lk, List.getElem?_map, Int.toNat_natCast, Option.map_some, List.length_map, hq, hy]
      refine flush_fin L t a m y hmm hy _ _ (fun k => ?_) (fun k => ?_) <;> first | rfl | exact (hnil2 k).symm | exact (hnil3 k).symm
end Go.Proofs.Ytlbhfpcbbembgaa
