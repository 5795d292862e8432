/-
  Layer 5 by shadows: the small functions.
-/
import Derived.Test.YtlbhfpcbbembgaaSc5
import Derived.OwnWalk
import Derived.Lib.LazyBuf
import Derived.Test.YtlbhfpcbbembgaaOpen
namespace Go.Proofs.Ytlbhfpcbbembgaa
set_option linter.unusedSimpArgs false
set_option linter.unusedVariables false
open Go.RowKit Go.Maps

abbrev sI (n : Int) : Sh := .v (.int .i64 n)
abbrev sU (n : Int) : Sh := .v (.int .u32 n)
abbrev sB (b : Bool) : Sh := .v (.bool b)

structure WordV where
  val : Int
  ver : Int
  ref : Int
abbrev eWord (w : WordV) : List Sh := [sI w.val, sU w.ver, sU w.ref]
structure StoreV where
  loc : Int
  word : WordV
abbrev eStore (x : StoreV) : List Sh := [sI x.loc, sI x.word.val, sU x.word.ver, sU x.word.ref]
structure LogV where
  stores : List StoreV
  kept : Int
abbrev eLog (y : LogV) : List Sh := [.sl 4 0 (y.stores.map eStore), sI y.kept]
structure LinesM where
  first : List WordV
  logs : List LogV
  asks : Int → Option (Int → Option Int)
abbrev eAsked (g : Int → Option Int) : Sh := .mp 3 fun k => (g k).map sI
abbrev eLines (L : LinesM) : Sh := .agg [.sl 3 0 (L.first.map eWord), .sl 2 0 (L.logs.map eLog), .mp 3 fun t => (L.asks t).map eAsked]

theorem infoWord : (Try.prog.info? 30).map (fun i => (i.zero, i.size, i.bytes)) = some (some (.agg #[.int .i64 0, .int .u32 0, .int .u32 0]), 3, 16) := by kernel_rfl
theorem infoLog : (Try.prog.info? 95).map (fun i => (i.zero, i.size, i.bytes)) = some (some (.agg #[.slice none 0 0, .int .i64 0]), 2, 32) := by kernel_rfl

theorem wpList_append_nothing {w : World} {ops : Array Oper} {rest : List Oper} {o : Oper} {a : Act} {Q : Exit → Act → World → Prop} (hg : o.guard = none) (x y : Operand) (t e : TypeId) (i : TypeInfo)
    (hop : o.op = .call ⟨.builtin .append, #[x, y], #[t, t]⟩) (ht : Try.prog.underlying t = some (.slice e)) (hi : Try.prog.info? e = some i) (b a2 : Option Addr) (c2 : Nat) (hx : a.eval x = .slice b 0 0) (hy : a.eval y = .slice a2 0 c2)
    (hK : wpList Try.prog ops Q rest (a.put o.dst (.slice b 0 0)) w) : wpList Try.prog ops Q (o :: rest) a w := by
  refine wpList_plain hg fun K' hK' => ?_
  have hl : ∀ (x : Addr), (loadCells x 0).run Try.prog w = .ok #[] w := fun x => by simpa using run_loadCells_list (P := Try.prog) w x [] (by simp)
  have hrun : (Builtin.append_ #[t, t] o.type #[.slice b 0 0, .slice a2 0 c2]).run Try.prog w = .ok (.slice b 0 0) w := by
    cases b <;> cases a2 <;> simp [Builtin.append_, run_underlying ht, run_sizeOf hi, Builtin.lenOf, Builtin.firstCells, hl, storeCells]
  unfold Oper.wp
  simp [execOp, hop, resolve, hx, hy, invoke, builtin, hrun]
  exact hK' _ _ hK

set_option maxRecDepth 100000 in
set_option maxHeartbeats 1000000 in
theorem row_cloneWord (g : Nat) (es : List (List Sh)) (hn : es.length ≤ 1000000) : OkRow 42 [.sl 3 g es] 30 3 es := by
  intro w H vs hs hv
  obtain ⟨i0, hi, hz0, hz1, hz2⟩ := info_parts infoWord
  cases hv with
  | cons hx ht =>
    rename_i u vs'
    cases ht
    obtain ⟨a, n, c, rfl⟩ : ∃ a n c, u = Value.slice a n c := by cases hx; exact ⟨_, _, _, rfl⟩
    obtain ⟨xs, p1, p2, p3, p3', _, p5, p6⟩ := sl_cells hs hx
    subst p2
    clear hx
    have hq := fun w a l c => Lib.run_eql_slice_nil (P := Try.prog) w 55 _ a l c 0 0 Try.underlying55
    cases a with
    | none =>
      have hc := p5 rfl
      have hn0 : es = [] := List.eq_nil_of_length_eq_zero (by omega)
      subst hn0; subst hc
      cases p1
      simp only [List.length_nil]
      go_enter Try.func42, Try.ntmps42
      go_wp2
      go_ret
      exact ⟨_, [], rfl, Grow.refl hs, by decide, World.ownsRow_nil _ _ _ _, .nil, fun _ => ⟨_, rfl⟩⟩
    | some ad =>
      by_cases h0 : es = []
      · subst h0
        cases p1
        clear p6
        simp only [List.length_nil]
        go_enter Try.func42, Try.ntmps42
        go_wp2_with (first
          | (at_builtin; refine wpList_append_nothing rfl _ _ 55 30 i0 rfl Try.underlying55 hi _ _ _ rfl rfl ?_)
          | go_in)
        go_ret
        refine ⟨_, [], rfl, (Grow.refl hs).alloc _, by decide, ?_, .nil, fun _ => ⟨_, rfl⟩⟩
        exact World.ownsRow_made _ _ 0 (Nat.le_refl _) (by decide) (by simp)
      have hcw : ∀ (j : Nat) (u : Value), xs[j]? = some u → (w.alloc (.cells #[] 30)).cell? (ad.add j) = some u := fun j u hu => by
        obtain ⟨cells, t, fr, h1, h2, h3⟩ := cell_block (p6 ad rfl j u hu)
        simp [World.cell?, h1, heap_past _ _ h2, h3]
      have hxl := p1.length
      have h1 := p1.one
      clear p6
      obtain ⟨n, hN⟩ : ∃ n, n = es.length := ⟨_, rfl⟩
      rw [← hN] at hxl hn p3 ⊢
      have HN := Lib.hid hN
      clear hN
      go_enter Try.func42, Try.ntmps42
      go_wp2_with (first
        | (at_builtin; refine wpList_append_own _ rfl _ _ 55 rfl w.heap.size 30 i0 _ 3 16 Try.underlying55 hi hz0 hz1 hz2 rfl (by decide) (.slice (some ⟨w.heap.size, 0, none⟩) 0 0) 0 [] rfl (World.ownsRow_made _ _ 0 (Nat.le_refl _) (by decide) (by simp)) ad n c xs rfl hxl hcw h1 (by unfold maxLen; omega) (by omega) (by simp) ?_; intro v' w1 hown hg1 hnil)
        | go_in)
      go_ret
      refine ⟨v', xs, rfl, ?_, by decide, by rw [← HN.out]; simpa using hown, p1, fun e => absurd e h0⟩
      exact ((Grow.refl hs).alloc _).grown hg1 (fun k hk => by simp [Value.ownBlock] at hk; subst hk; exact ⟨Nat.le_refl _, hs.none (Nat.le_refl _)⟩)
set_option maxRecDepth 100000 in
set_option maxHeartbeats 1000000 in
theorem row_cloneLog (g : Nat) (es : List (List Sh)) (hn : es.length ≤ 1000000) : OkRow 44 [.sl 2 g es] 95 2 es := by
  intro w H vs hs hv
  obtain ⟨i0, hi, hz0, hz1, hz2⟩ := info_parts infoLog
  cases hv with
  | cons hx ht =>
    rename_i u vs'
    cases ht
    obtain ⟨a, n, c, rfl⟩ : ∃ a n c, u = Value.slice a n c := by cases hx; exact ⟨_, _, _, rfl⟩
    obtain ⟨xs, p1, p2, p3, p3', _, p5, p6⟩ := sl_cells hs hx
    subst p2
    clear hx
    have hq := fun w a l c => Lib.run_eql_slice_nil (P := Try.prog) w 56 _ a l c 0 0 Try.underlying56
    cases a with
    | none =>
      have hc := p5 rfl
      have hn0 : es = [] := List.eq_nil_of_length_eq_zero (by omega)
      subst hn0; subst hc
      cases p1
      simp only [List.length_nil]
      go_enter Try.func44, Try.ntmps44
      go_wp2
      go_ret
      exact ⟨_, [], rfl, Grow.refl hs, by decide, World.ownsRow_nil _ _ _ _, .nil, fun _ => ⟨_, rfl⟩⟩
    | some ad =>
      by_cases h0 : es = []
      · subst h0
        cases p1
        clear p6
        simp only [List.length_nil]
        go_enter Try.func44, Try.ntmps44
        go_wp2_with (first
          | (at_builtin; refine wpList_append_nothing rfl _ _ 56 95 i0 rfl Try.underlying56 hi _ _ _ rfl rfl ?_)
          | go_in)
        go_ret
        refine ⟨_, [], rfl, (Grow.refl hs).alloc _, by decide, ?_, .nil, fun _ => ⟨_, rfl⟩⟩
        exact World.ownsRow_made _ _ 0 (Nat.le_refl _) (by decide) (by simp)
      have hcw : ∀ (j : Nat) (u : Value), xs[j]? = some u → (w.alloc (.cells #[] 95)).cell? (ad.add j) = some u := fun j u hu => by
        obtain ⟨cells, t, fr, h1, h2, h3⟩ := cell_block (p6 ad rfl j u hu)
        simp [World.cell?, h1, heap_past _ _ h2, h3]
      have hxl := p1.length
      have h1 := p1.one
      clear p6
      obtain ⟨n, hN⟩ : ∃ n, n = es.length := ⟨_, rfl⟩
      rw [← hN] at hxl hn p3 ⊢
      have HN := Lib.hid hN
      clear hN
      go_enter Try.func44, Try.ntmps44
      go_wp2_with (first
        | (at_builtin; refine wpList_append_own _ rfl _ _ 56 rfl w.heap.size 95 i0 _ 2 32 Try.underlying56 hi hz0 hz1 hz2 rfl (by decide) (.slice (some ⟨w.heap.size, 0, none⟩) 0 0) 0 [] rfl (World.ownsRow_made _ _ 0 (Nat.le_refl _) (by decide) (by simp)) ad n c xs rfl hxl hcw h1 (by unfold maxLen; omega) (by omega) (by simp) ?_; intro v' w1 hown hg1 hnil)
        | go_in)
      go_ret
      refine ⟨v', xs, rfl, ?_, by decide, by rw [← HN.out]; simpa using hown, p1, fun e => absurd e h0⟩
      exact ((Grow.refl hs).alloc _).grown hg1 (fun k hk => by simp [Value.ownBlock] at hk; subst hk; exact ⟨Nat.le_refl _, hs.none (Nat.le_refl _)⟩)
/-- Handed over at once. -/
theorem OkRow.ok {f : FuncId} {args : List Sh} {e : TypeId} {k : Nat} {es : List (List Sh)} (h : OkRow f args e k es) : Ok f args (.sl k 0 es) := by
  intro w H vs hs hv
  refine Calls.mono (h w H vs hs hv) ?_
  rintro en w' ⟨v, xs, rfl, hg, hpos, hown, hR, hnil⟩
  by_cases h0 : es = []
  · subst h0
    obtain ⟨a, rfl⟩ := hnil rfl
    exact ret_mk (c := fun v : Value => v) _ H hg (.sl .nil rfl (Nat.le_refl _) (Nat.zero_le _) ⟨fun _ => rfl, fun _ _ => rfl⟩ (fun _ => rfl) (fun j u hu => by simp at hu))
  · have hp : 0 < es.length := by cases es with | nil => exact absurd rfl h0 | cons => simp
    obtain ⟨g, cap, cur, rfl, s2, s3, s4, s5, s6, s7⟩ := ownsRow_rep hown hR rfl hp
    have hg0 : H g = none := hs.none s2
    refine ret_mk (c := fun v : Value => v) _ (H.add g (.cells cur e (0, 0))) (hg.add s3 s2) (.sl (hR.mono (Hp.add_le hg0)) rfl s4 s5 ⟨fun e => (by cases e), fun _ e => absurd (List.eq_nil_of_length_eq_zero e) h0⟩ (fun e => (by cases e)) (fun j u hu => ⟨g, 0, cur, e, (0, 0), rfl, Hp.add_at _ _ _, ?_⟩))
    rw [← s7, List.getElem?_take] at hu
    split at hu
    · simpa using hu
    · cases hu

theorem ok_lThread (t : Int) : Ok 46 [sI t] (sB (decide (1 ≤ t ∧ t ≤ 8))) := by
  refine ok_of_tr Try.func46 tr_lThread rfl ?_
  by_cases h1 : 1 ≤ t <;> by_cases h2 : t ≤ 8
  all_goals
    unfold evFn sc_lThread
    refine ev_seq_k fun K1 hn1 hr1 he1 => ?_
    refine ev_ops_k fun K2 hk2 => ?_
    simp only [shA, if_true, if_false, ite_true, ite_false, forall_const, ite_self, eq_self, reduceIte, reduceCtorEq, Nat.reduceEqDiff, Nat.reduceAdd, Nat.reduceLeDiff, Nat.reduceSub, Int.reduceToNat, Nat.reduceBEq, Nat.reduceMul, Nat.reduceLT, Int.reduceLE, Int.reduceLT, Nat.reduceMod, h1, h2]
    refine hk2 _ ?_
    refine hn1 (some ([0, 6, 7], none)) _ ?_
    refine ev_seq_k fun K3 hn3 hr3 he3 => ?_
    refine ev_ops_k fun K4 hk4 => ?_
    refine evL_take 2 fun K5 hk5 => ?_
    simp only [shA, if_true, if_false, ite_true, ite_false, forall_const, ite_self, eq_self, reduceIte, reduceCtorEq, Nat.reduceEqDiff, Nat.reduceAdd, Nat.reduceLeDiff, Nat.reduceSub, Int.reduceToNat, Nat.reduceBEq, Nat.reduceMul, Nat.reduceLT, Int.reduceLE, Int.reduceLT, Nat.reduceMod, h1, h2]
    repeat (refine ⟨by first | assumption | omega | decide | (simp; done) | (simp_all; done) | (simp; omega), ?_⟩)
    refine hk5 _ ?_
    refine evL_take 3 fun K6 hk6 => ?_
    simp only [shA, if_true, if_false, ite_true, ite_false, forall_const, ite_self, eq_self, reduceIte, reduceCtorEq, Nat.reduceEqDiff, Nat.reduceAdd, Nat.reduceLeDiff, Nat.reduceSub, Int.reduceToNat, Nat.reduceBEq, Nat.reduceMul, Nat.reduceLT, Int.reduceLE, Int.reduceLT, Nat.reduceMod, h1, h2]
    repeat (refine ⟨by first | assumption | omega | decide | (simp; done) | (simp_all; done) | (simp; omega), ?_⟩)
    refine hk6 _ ?_
    simp only [shA, if_true, if_false, ite_true, ite_false, forall_const, ite_self, eq_self, reduceIte, reduceCtorEq, Nat.reduceEqDiff, Nat.reduceAdd, Nat.reduceLeDiff, Nat.reduceSub, Int.reduceToNat, Nat.reduceBEq, Nat.reduceMul, Nat.reduceLT, Int.reduceLE, Int.reduceLT, Nat.reduceMod, h1, h2]
    refine hk4 _ ?_
    refine hn3 (some ([2], none)) _ ?_
    simp only [shA, if_true, if_false, ite_true, ite_false, forall_const, ite_self, eq_self, reduceIte, reduceCtorEq, Nat.reduceEqDiff, Nat.reduceAdd, Nat.reduceLeDiff, Nat.reduceSub, Int.reduceToNat, Nat.reduceBEq, Nat.reduceMul, Nat.reduceLT, Int.reduceLE, Int.reduceLT, Nat.reduceMod, ev, fin, rv_lThread, h1, h2]

theorem ok_lHas (L : LinesM) (a : Int) : Ok 43 [eLines L, sI a] (sB (decide (0 ≤ a ∧ a < (L.first.length : Int)))) := by
  refine ok_of_tr Try.func43 tr_lHas rfl ?_
  by_cases h1 : 0 ≤ a <;> by_cases h2 : a < (L.first.length : Int)
  all_goals
    unfold evFn sc_lHas
    refine ev_seq_k fun K1 hn1 hr1 he1 => ?_
    refine ev_ops_k fun K2 hk2 => ?_
    simp only [shA, if_true, if_false, ite_true, ite_false, forall_const, ite_self, eq_self, reduceIte, reduceCtorEq, Nat.reduceEqDiff, Nat.reduceAdd, Nat.reduceLeDiff, Nat.reduceSub, Int.reduceToNat, Nat.reduceBEq, Nat.reduceMul, Nat.reduceLT, Int.reduceLE, Int.reduceLT, Nat.reduceMod, h1, h2, List.length_map]
    refine hk2 _ ?_
    refine hn1 (some ([1, 2, 8, 9, 10, 11, 12], none)) _ ?_
    refine ev_seq_k fun K3 hn3 hr3 he3 => ?_
    refine ev_ops_k fun K4 hk4 => ?_
    refine evL_take 2 fun K5 hk5 => ?_
    simp only [shA, if_true, if_false, ite_true, ite_false, forall_const, ite_self, eq_self, reduceIte, reduceCtorEq, Nat.reduceEqDiff, Nat.reduceAdd, Nat.reduceLeDiff, Nat.reduceSub, Int.reduceToNat, Nat.reduceBEq, Nat.reduceMul, Nat.reduceLT, Int.reduceLE, Int.reduceLT, Nat.reduceMod, h1, h2, List.length_map]
    repeat (refine ⟨by first | assumption | omega | decide | (simp; done) | (simp_all; done) | (simp; omega), ?_⟩)
    refine hk5 _ ?_
    refine evL_take 4 fun K6 hk6 => ?_
    simp only [shA, if_true, if_false, ite_true, ite_false, forall_const, ite_self, eq_self, reduceIte, reduceCtorEq, Nat.reduceEqDiff, Nat.reduceAdd, Nat.reduceLeDiff, Nat.reduceSub, Int.reduceToNat, Nat.reduceBEq, Nat.reduceMul, Nat.reduceLT, Int.reduceLE, Int.reduceLT, Nat.reduceMod, h1, h2, List.length_map]
    repeat (refine ⟨by first | assumption | omega | decide | (simp; done) | (simp_all; done) | (simp; omega), ?_⟩)
    refine hk6 _ ?_
    refine evL_take 2 fun K7 hk7 => ?_
    simp only [shA, if_true, if_false, ite_true, ite_false, forall_const, ite_self, eq_self, reduceIte, reduceCtorEq, Nat.reduceEqDiff, Nat.reduceAdd, Nat.reduceLeDiff, Nat.reduceSub, Int.reduceToNat, Nat.reduceBEq, Nat.reduceMul, Nat.reduceLT, Int.reduceLE, Int.reduceLT, Nat.reduceMod, h1, h2, List.length_map]
    repeat (refine ⟨by first | assumption | omega | decide | (simp; done) | (simp_all; done) | (simp; omega), ?_⟩)
    refine hk7 _ ?_
    simp only [shA, if_true, if_false, ite_true, ite_false, forall_const, ite_self, eq_self, reduceIte, reduceCtorEq, Nat.reduceEqDiff, Nat.reduceAdd, Nat.reduceLeDiff, Nat.reduceSub, Int.reduceToNat, Nat.reduceBEq, Nat.reduceMul, Nat.reduceLT, Int.reduceLE, Int.reduceLT, Nat.reduceMod, h1, h2, List.length_map]
    refine hk4 _ ?_
    refine hn3 (some ([4], none)) _ ?_
    simp only [shA, if_true, if_false, ite_true, ite_false, forall_const, ite_self, eq_self, reduceIte, reduceCtorEq, Nat.reduceEqDiff, Nat.reduceAdd, Nat.reduceLeDiff, Nat.reduceSub, Int.reduceToNat, Nat.reduceBEq, Nat.reduceMul, Nat.reduceLT, Int.reduceLE, Int.reduceLT, Nat.reduceMod, ev, fin, rv_lHas, h1, h2, List.length_map]
end Go.Proofs.Ytlbhfpcbbembgaa
