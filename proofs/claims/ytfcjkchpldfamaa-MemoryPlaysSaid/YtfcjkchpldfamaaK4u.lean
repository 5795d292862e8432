/-
  The reference of layer 4 by shadows: first functions (MemoryPlays).
-/
import Derived.Test.YtfcjkchpldfamaaK4f
import Derived.Test.YtfcjkchpldfamaaSc4r
namespace Go.Proofs.Ytfcjkchpldfamaa
set_option linter.unusedSimpArgs false
set_option linter.unusedVariables false
open Go.RowKit Go.Maps

structure RMsg4 where
  word : WordV
  view : List Int
structure RefM4 where
  views : List (List Int)
  msgs : List (List RMsg4)
abbrev eRI (x : Int) : List Sh := [sI x]
abbrev eRV (v : List Int) : List Sh := [.sl 1 0 (v.map eRI)]
abbrev eRM (m : RMsg4) : List Sh := [sI m.word.val, sU m.word.ver, sU m.word.ref, .sl 1 0 (m.view.map eRI)]
abbrev eRP (h : List RMsg4) : List Sh := [.sl 4 0 (h.map eRM)]
abbrev eRef4 (R : RefM4) : Sh := .agg [.sl 1 0 (R.views.map eRV), .sl 1 0 (R.msgs.map eRP)]
def wrong4 (R : RefM4) (t a : Int) : Int := if t < 1 ∨ (R.views.length : Int) < t then 3 else if a < 0 ∨ (R.msgs.length : Int) ≤ a then 1 else 0
theorem ok_r4wrong (R : RefM4) (t a : Int) : Ok 79 [eRef4 R, sI t, sI a] (sI (wrong4 R t a)) := by
  refine ok_of_tr Try.func79 tr_r4wrong rfl ?_
  unfold wrong4
  by_cases h1 : t < 1
  · rw [if_pos (.inl h1)]
    unfold evFn sc_r4wrong rv_r4wrong
    have F1 := @h1
    refine ev_seq_k fun K1 hn1 hr1 he1 => ?_
    refine ev_ops_k fun K2 hk2 => ?_
    refine sh1 F1 ?_
    refine hk2 _ ?_
    refine hn1 (some ([1, 2, 3], none)) _ ?_
    refine ev_seq_k fun K3 hn3 hr3 he3 => ?_
    refine ev_seq_k fun K4 hn4 hr4 he4 => ?_
    refine ev_ops_k fun K5 hk5 => ?_
    refine evL_take 2 fun K6 hk6 => ?_
    refine sh1 F1 ?_
    refine sd ?_
    refine hk6 _ ?_
    refine evL_take 4 fun K7 hk7 => ?_
    refine sh1 F1 ?_
    refine sd ?_
    refine hk7 _ ?_
    refine evL_take 2 fun K8 hk8 => ?_
    refine sh1 F1 ?_
    refine sd ?_
    refine hk8 _ ?_
    refine sh1 F1 ?_
    refine hk5 _ ?_
    refine hn4 (some ([2, 3, 15], none)) _ ?_
    refine ev_cond_k rfl (fun hc0 => ?_) (fun hx => absurd hx (by simp at hx))
    clear hc0
    refine ev_seq_k fun K9 hn9 hr9 he9 => ?_
    refine ev_ops_k fun K10 hk10 => ?_
    refine sh1 F1 ?_
    refine hk10 _ ?_
    refine hn9 (some ([6], none)) _ ?_
    refine hr3 _ ?_
    exact sf1 F1
  by_cases h2 : (R.views.length : Int) < t
  · rw [if_pos (.inr h2)]
    unfold evFn sc_r4wrong rv_r4wrong
    have F1 := And.intro @h1 @h2
    refine ev_seq_k fun K1 hn1 hr1 he1 => ?_
    refine ev_ops_k fun K2 hk2 => ?_
    refine sh1 F1 ?_
    refine hk2 _ ?_
    refine hn1 (some ([1, 2, 3], none)) _ ?_
    refine ev_seq_k fun K3 hn3 hr3 he3 => ?_
    refine ev_seq_k fun K4 hn4 hr4 he4 => ?_
    refine ev_ops_k fun K5 hk5 => ?_
    refine evL_take 2 fun K6 hk6 => ?_
    refine sh1 F1 ?_
    refine sd ?_
    refine hk6 _ ?_
    refine evL_take 4 fun K7 hk7 => ?_
    refine sh1 F1 ?_
    refine sd ?_
    refine hk7 _ ?_
    refine evL_take 2 fun K8 hk8 => ?_
    refine sh1 F1 ?_
    refine sd ?_
    refine hk8 _ ?_
    refine sh1 F1 ?_
    refine hk5 _ ?_
    refine hn4 (some ([2, 3, 15], none)) _ ?_
    refine ev_cond_k rfl (fun hc0 => ?_) (fun hx => absurd hx (by simp at hx))
    clear hc0
    refine ev_seq_k fun K9 hn9 hr9 he9 => ?_
    refine ev_ops_k fun K10 hk10 => ?_
    refine sh1 F1 ?_
    refine hk10 _ ?_
    refine hn9 (some ([6], none)) _ ?_
    refine hr3 _ ?_
    exact sf1 F1
  rw [if_neg (by omega)]
  by_cases h3 : a < 0
  · rw [if_pos (.inl h3)]
    unfold evFn sc_r4wrong rv_r4wrong
    have F1 := And.intro @h1 (And.intro @h2 @h3)
    refine ev_seq_k fun K1 hn1 hr1 he1 => ?_
    refine ev_ops_k fun K2 hk2 => ?_
    refine sh1 F1 ?_
    refine hk2 _ ?_
    refine hn1 (some ([1, 2, 3], none)) _ ?_
    refine ev_seq_k fun K3 hn3 hr3 he3 => ?_
    refine ev_seq_k fun K4 hn4 hr4 he4 => ?_
    refine ev_ops_k fun K5 hk5 => ?_
    refine evL_take 2 fun K6 hk6 => ?_
    refine sh1 F1 ?_
    refine sd ?_
    refine hk6 _ ?_
    refine evL_take 4 fun K7 hk7 => ?_
    refine sh1 F1 ?_
    refine sd ?_
    refine hk7 _ ?_
    refine evL_take 2 fun K8 hk8 => ?_
    refine sh1 F1 ?_
    refine sd ?_
    refine hk8 _ ?_
    refine sh1 F1 ?_
    refine hk5 _ ?_
    refine hn4 (some ([2, 3, 15], none)) _ ?_
    refine ev_cond_k rfl (fun hx => absurd hx (by simp at hx)) (fun hc0 => ?_)
    clear hc0
    refine hn3 (some ([2, 3], none)) _ ?_
    refine ev_seq_k fun K9 hn9 hr9 he9 => ?_
    refine ev_seq_k fun K10 hn10 hr10 he10 => ?_
    refine ev_ops_k fun K11 hk11 => ?_
    refine evL_take 2 fun K12 hk12 => ?_
    refine sh1 F1 ?_
    refine sd ?_
    refine hk12 _ ?_
    refine evL_take 4 fun K13 hk13 => ?_
    refine sh1 F1 ?_
    refine sd ?_
    refine hk13 _ ?_
    refine evL_take 2 fun K14 hk14 => ?_
    refine sh1 F1 ?_
    refine sd ?_
    refine hk14 _ ?_
    refine sh1 F1 ?_
    refine hk11 _ ?_
    refine hn10 (some ([24], none)) _ ?_
    refine ev_cond_k rfl (fun hc1 => ?_) (fun hx => absurd hx (by simp at hx))
    clear hc1
    refine ev_seq_k fun K15 hn15 hr15 he15 => ?_
    refine ev_ops_k fun K16 hk16 => ?_
    refine sh1 F1 ?_
    refine hk16 _ ?_
    refine hn15 (some ([6], none)) _ ?_
    refine hr9 _ ?_
    exact sf1 F1
  by_cases h4 : (R.msgs.length : Int) ≤ a
  · rw [if_pos (.inr h4)]
    unfold evFn sc_r4wrong rv_r4wrong
    have F1 := And.intro @h1 (And.intro @h2 (And.intro @h3 @h4))
    refine ev_seq_k fun K1 hn1 hr1 he1 => ?_
    refine ev_ops_k fun K2 hk2 => ?_
    refine sh1 F1 ?_
    refine hk2 _ ?_
    refine hn1 (some ([1, 2, 3], none)) _ ?_
    refine ev_seq_k fun K3 hn3 hr3 he3 => ?_
    refine ev_seq_k fun K4 hn4 hr4 he4 => ?_
    refine ev_ops_k fun K5 hk5 => ?_
    refine evL_take 2 fun K6 hk6 => ?_
    refine sh1 F1 ?_
    refine sd ?_
    refine hk6 _ ?_
    refine evL_take 4 fun K7 hk7 => ?_
    refine sh1 F1 ?_
    refine sd ?_
    refine hk7 _ ?_
    refine evL_take 2 fun K8 hk8 => ?_
    refine sh1 F1 ?_
    refine sd ?_
    refine hk8 _ ?_
    refine sh1 F1 ?_
    refine hk5 _ ?_
    refine hn4 (some ([2, 3, 15], none)) _ ?_
    refine ev_cond_k rfl (fun hx => absurd hx (by simp at hx)) (fun hc0 => ?_)
    clear hc0
    refine hn3 (some ([2, 3], none)) _ ?_
    refine ev_seq_k fun K9 hn9 hr9 he9 => ?_
    refine ev_seq_k fun K10 hn10 hr10 he10 => ?_
    refine ev_ops_k fun K11 hk11 => ?_
    refine evL_take 2 fun K12 hk12 => ?_
    refine sh1 F1 ?_
    refine sd ?_
    refine hk12 _ ?_
    refine evL_take 4 fun K13 hk13 => ?_
    refine sh1 F1 ?_
    refine sd ?_
    refine hk13 _ ?_
    refine evL_take 2 fun K14 hk14 => ?_
    refine sh1 F1 ?_
    refine sd ?_
    refine hk14 _ ?_
    refine sh1 F1 ?_
    refine hk11 _ ?_
    refine hn10 (some ([24], none)) _ ?_
    refine ev_cond_k rfl (fun hc1 => ?_) (fun hx => absurd hx (by simp at hx))
    clear hc1
    refine ev_seq_k fun K15 hn15 hr15 he15 => ?_
    refine ev_ops_k fun K16 hk16 => ?_
    refine sh1 F1 ?_
    refine hk16 _ ?_
    refine hn15 (some ([6], none)) _ ?_
    refine hr9 _ ?_
    exact sf1 F1
  rw [if_neg (by omega)]
  unfold evFn sc_r4wrong rv_r4wrong
  have F1 := And.intro @h1 (And.intro @h2 (And.intro @h3 @h4))
  refine ev_seq_k fun K1 hn1 hr1 he1 => ?_
  refine ev_ops_k fun K2 hk2 => ?_
  refine sh1 F1 ?_
  refine hk2 _ ?_
  refine hn1 (some ([1, 2, 3], none)) _ ?_
  refine ev_seq_k fun K3 hn3 hr3 he3 => ?_
  refine ev_seq_k fun K4 hn4 hr4 he4 => ?_
  refine ev_ops_k fun K5 hk5 => ?_
  refine evL_take 2 fun K6 hk6 => ?_
  refine sh1 F1 ?_
  refine sd ?_
  refine hk6 _ ?_
  refine evL_take 4 fun K7 hk7 => ?_
  refine sh1 F1 ?_
  refine sd ?_
  refine hk7 _ ?_
  refine evL_take 2 fun K8 hk8 => ?_
  refine sh1 F1 ?_
  refine sd ?_
  refine hk8 _ ?_
  refine sh1 F1 ?_
  refine hk5 _ ?_
  refine hn4 (some ([2, 3, 15], none)) _ ?_
  refine ev_cond_k rfl (fun hx => absurd hx (by simp at hx)) (fun hc0 => ?_)
  clear hc0
  refine hn3 (some ([2, 3], none)) _ ?_
  refine ev_seq_k fun K9 hn9 hr9 he9 => ?_
  refine ev_seq_k fun K10 hn10 hr10 he10 => ?_
  refine ev_ops_k fun K11 hk11 => ?_
  refine evL_take 2 fun K12 hk12 => ?_
  refine sh1 F1 ?_
  refine sd ?_
  refine hk12 _ ?_
  refine evL_take 4 fun K13 hk13 => ?_
  refine sh1 F1 ?_
  refine sd ?_
  refine hk13 _ ?_
  refine evL_take 2 fun K14 hk14 => ?_
  refine sh1 F1 ?_
  refine sd ?_
  refine hk14 _ ?_
  refine sh1 F1 ?_
  refine hk11 _ ?_
  refine hn10 (some ([24], none)) _ ?_
  refine ev_cond_k rfl (fun hx => absurd hx (by simp at hx)) (fun hc1 => ?_)
  clear hc1
  refine hn9 (some ([], none)) _ ?_
  refine ev_seq_k fun K15 hn15 hr15 he15 => ?_
  refine ev_ops_k fun K16 hk16 => ?_
  refine sh1 F1 ?_
  refine hk16 _ ?_
  refine hn15 (some ([6], none)) _ ?_
  exact sf1 F1
theorem ok_r4with (g : Nat) (v : List Int) (p : Nat) (n : Int) (hp : p < v.length) (hv : v.length ≤ 1000000) : Ok 81 [.sl 1 g (v.map eRI), sI p, sI n] (.sl 1 0 ((v.set p n).map eRI)) := by
  refine ok_of_tr Try.func81 tr_r4with rfl ?_
  have e1 : (v.map eRI).set p [sI n] = (v.set p n).map eRI := by rw [List.map_set]
  have q1 : (p : Int) < (v.length : Int) := by omega
  obtain ⟨y, hy⟩ : ∃ y, v[p]? = some y := ⟨_, List.getElem?_eq_getElem hp⟩
  have q3 : v.length * 8 ≤ 140737488355328 := by omega
  unfold evFn sc_r4with rv_r4with
  have F1 := And.intro @hp (And.intro @q1 (And.intro @hv (And.intro @q3 (And.intro @hy @e1))))
  refine ev_seq_k fun K1 hn1 hr1 he1 => ?_
  refine ev_ops_k fun K2 hk2 => ?_
  refine sh1 F1 ?_
  refine hk2 _ ?_
  refine hn1 (some ([0, 1, 2], none)) _ ?_
  refine ev_seq_k fun K3 hn3 hr3 he3 => ?_
  refine ev_ops_k fun K4 hk4 => ?_
  refine evL_take 1 fun K5 hk5 => ?_
  refine sh1 F1 ?_
  refine sd ?_
  refine hk5 _ ?_
  refine evL_take 2 fun K6 hk6 => ?_
  refine sh1 F1 ?_
  refine sd ?_
  refine hk6 _ ?_
  refine sh1 F1 ?_
  refine hk4 _ ?_
  refine hn3 (some ([1, 2, 7], none)) _ ?_
  refine ev_seq_k fun K7 hn7 hr7 he7 => ?_
  refine ev_ops_k fun K8 hk8 => ?_
  refine evL_take 4 fun K9 hk9 => ?_
  refine sh1 F1 ?_
  refine sd ?_
  refine hk9 _ ?_
  refine sh1 F1 ?_
  refine sd ?_
  refine hk8 _ ?_
  refine hn7 (some ([7], none)) _ ?_
  refine ev_seq_k fun K10 hn10 hr10 he10 => ?_
  refine ev_ops_k fun K11 hk11 => ?_
  refine sh1 F1 ?_
  refine hk11 _ ?_
  refine hn10 (some ([6], none)) _ ?_
  exact sf1 F1
theorem ok_r4know (R : RefM4) (t : Nat) (v : List Int) (ht : t < R.views.length) (hv : R.views.length ≤ 8) : Ok 83 [eRef4 R, sI ((t : Int) + 1), .sl 1 0 (v.map eRI)] (eRef4 ⟨R.views.set t v, R.msgs⟩) := by
  refine ok_of_tr Try.func83 tr_r4know rfl ?_
  have e1 : (R.views.map eRV).set t [.sl 1 0 (v.map eRI)] = (R.views.set t v).map eRV := by rw [List.map_set]
  have q1 : (t : Int) < (R.views.length : Int) := by omega
  have q2 : IntKind.i64.wrap ((t : Int) + 1 - 1) = (t : Int) := by rw [IntKind.wrap_i64]; omega
  have q4 : R.views.length ≤ 1000000 := by omega
  have q3 : R.views.length * 24 ≤ 140737488355328 := by omega
  obtain ⟨y, hy⟩ : ∃ y, R.views[t]? = some y := ⟨_, List.getElem?_eq_getElem ht⟩
  unfold evFn sc_r4know rv_r4know
  have F1 := And.intro @ht (And.intro @q1 (And.intro @q2 (And.intro @q4 (And.intro @q3 (And.intro @hy @e1)))))
  refine ev_seq_k fun K1 hn1 hr1 he1 => ?_
  refine ev_ops_k fun K2 hk2 => ?_
  refine sh1 F1 ?_
  refine hk2 _ ?_
  refine hn1 (some ([1, 2, 3, 6], none)) _ ?_
  refine ev_seq_k fun K3 hn3 hr3 he3 => ?_
  refine ev_ops_k fun K4 hk4 => ?_
  refine evL_take 1 fun K5 hk5 => ?_
  refine sh1 F1 ?_
  refine sd ?_
  refine hk5 _ ?_
  refine evL_take 2 fun K6 hk6 => ?_
  refine sh1 F1 ?_
  refine sd ?_
  refine hk6 _ ?_
  refine evL_take 1 fun K7 hk7 => ?_
  refine sh1 F1 ?_
  refine sd ?_
  refine hk7 _ ?_
  refine sh1 F1 ?_
  refine hk4 _ ?_
  refine hn3 (some ([1, 2, 3, 6, 7], none)) _ ?_
  refine ev_seq_k fun K8 hn8 hr8 he8 => ?_
  refine ev_ops_k fun K9 hk9 => ?_
  refine evL_take 3 fun K10 hk10 => ?_
  refine sh1 F1 ?_
  refine sd ?_
  refine hk10 _ ?_
  refine evL_take 2 fun K11 hk11 => ?_
  refine sh1 F1 ?_
  refine sd ?_
  refine hk11 _ ?_
  refine sh1 F1 ?_
  refine sd ?_
  refine hk9 _ ?_
  refine hn8 (some ([3, 6, 7], none)) _ ?_
  refine ev_seq_k fun K12 hn12 hr12 he12 => ?_
  refine ev_ops_k fun K13 hk13 => ?_
  refine evL_take 3 fun K14 hk14 => ?_
  refine sh1 F1 ?_
  refine sd ?_
  refine hk14 _ ?_
  refine sh1 F1 ?_
  refine sd ?_
  refine hk13 _ ?_
  refine hn12 (some ([6], none)) _ ?_
  exact sf1 F1
end Go.Proofs.Ytfcjkchpldfamaa
