/-
  AtomDoes and AtomOthers, by shadows.
-/
import Derived.Test.YtcbdgnjdpfgobaaK10c
import Derived.Test.YtcbdgnjdpfgobaaScAtomDoes
import Derived.Test.YtcbdgnjdpfgobaaScAtomOthers
import Derived.Test.YtcbdgnjdpfgobaaMC
namespace Go.Proofs.Ytcbdgnjdpfgobaa
set_option linter.unusedSimpArgs false
set_option linter.unusedVariables false
open Go.RowKit Go.Maps

set_option maxHeartbeats 2000000 in
theorem ok_r10Do (o : OpV) (v : Int) (h : checkA o = 0) : Ok 42 [sI o.kind, sI o.n, sI v] (.tup [sI (doA o v).1, sI (doA o v).2]) := by
  refine ok_of_tr Try.func42 tr_r10Do rfl ?_
  unfold doA
  rw [if_pos h]
  obtain ⟨⟨h1, h2⟩, _⟩ := checkA_zero h
  clear h
  obtain ⟨kd, lc, n⟩ := o
  simp only at h1 h2 ⊢
  have hcase : kd = 0 ∨ kd = 1 ∨ kd = 2 ∨ kd = 3 := by omega
  unfold mkA
  rcases hcase with rfl | rfl | rfl | rfl
  · rw [if_pos rfl]
    unfold evFn sc_r10Do rv_r10Do
    refine ev_seq_k fun K1 hn1 hr1 he1 => ?_
    refine ev_ops_k fun K2 hk2 => ?_
    refine sh0 ?_
    refine hk2 _ ?_
    refine hn1 (some ([0, 1, 2], none)) _ ?_
    refine ev_seq_k fun K3 hn3 hr3 he3 => ?_
    refine ev_seq_k fun K4 hn4 hr4 he4 => ?_
    refine ev_ops_k fun K5 hk5 => ?_
    refine sh0 ?_
    refine sd ?_
    refine hk5 _ ?_
    refine hn4 (some ([0, 1, 2, 9], none)) _ ?_
    refine ev_cond_k rfl (fun hc0 => ?_) (fun hx => absurd hx (by simp at hx))
    clear hc0
    refine ev_seq_k fun K6 hn6 hr6 he6 => ?_
    refine ev_ops_k fun K7 hk7 => ?_
    refine evL_take 3 fun K8 hk8 => ?_
    refine sh0 ?_
    refine sd ?_
    refine hk8 _ ?_
    refine sh0 ?_
    refine hk7 _ ?_
    refine hn6 (some ([6, 7], none)) _ ?_
    refine hr3 _ ?_
    exact sf0
  · rw [if_neg (by decide), if_pos rfl]
    by_cases hv : v < n
    · rw [show max v n = n by omega]
      unfold evFn sc_r10Do rv_r10Do
      have F1 := @hv
      refine ev_seq_k fun K1 hn1 hr1 he1 => ?_
      refine ev_ops_k fun K2 hk2 => ?_
      refine sh1 F1 ?_
      refine hk2 _ ?_
      refine hn1 (some ([0, 1, 2], none)) _ ?_
      refine ev_seq_k fun K3 hn3 hr3 he3 => ?_
      refine ev_seq_k fun K4 hn4 hr4 he4 => ?_
      refine ev_ops_k fun K5 hk5 => ?_
      refine sh1 F1 ?_
      refine sd ?_
      refine hk5 _ ?_
      refine hn4 (some ([0, 1, 2, 9], none)) _ ?_
      refine ev_cond_k rfl (fun hx => absurd hx (by simp at hx)) (fun hc0 => ?_)
      clear hc0
      refine hn3 (some ([0, 1, 2], none)) _ ?_
      refine ev_seq_k fun K6 hn6 hr6 he6 => ?_
      refine ev_seq_k fun K7 hn7 hr7 he7 => ?_
      refine ev_ops_k fun K8 hk8 => ?_
      refine evL_take 2 fun K9 hk9 => ?_
      refine sh1 F1 ?_
      refine sd ?_
      refine hk9 _ ?_
      refine evL_take 4 fun K10 hk10 => ?_
      refine sh1 F1 ?_
      refine sd ?_
      refine hk10 _ ?_
      refine sh1 F1 ?_
      refine hk8 _ ?_
      refine hn7 (some ([0, 1, 2, 20], none)) _ ?_
      refine ev_cond_k rfl (fun hc1 => ?_) (fun hx => absurd hx (by simp at hx))
      clear hc1
      refine ev_seq_k fun K11 hn11 hr11 he11 => ?_
      refine ev_ops_k fun K12 hk12 => ?_
      refine sh1 F1 ?_
      refine hk12 _ ?_
      refine hn11 (some ([6, 7], none)) _ ?_
      refine hr6 _ ?_
      exact sf1 F1
    · rw [show max v n = v by omega]
      unfold evFn sc_r10Do rv_r10Do
      have F1 := @hv
      refine ev_seq_k fun K1 hn1 hr1 he1 => ?_
      refine ev_ops_k fun K2 hk2 => ?_
      refine sh1 F1 ?_
      refine hk2 _ ?_
      refine hn1 (some ([0, 1, 2], none)) _ ?_
      refine ev_seq_k fun K3 hn3 hr3 he3 => ?_
      refine ev_seq_k fun K4 hn4 hr4 he4 => ?_
      refine ev_ops_k fun K5 hk5 => ?_
      refine sh1 F1 ?_
      refine sd ?_
      refine hk5 _ ?_
      refine hn4 (some ([0, 1, 2, 9], none)) _ ?_
      refine ev_cond_k rfl (fun hx => absurd hx (by simp at hx)) (fun hc0 => ?_)
      clear hc0
      refine hn3 (some ([0, 1, 2], none)) _ ?_
      refine ev_seq_k fun K6 hn6 hr6 he6 => ?_
      refine ev_seq_k fun K7 hn7 hr7 he7 => ?_
      refine ev_ops_k fun K8 hk8 => ?_
      refine evL_take 2 fun K9 hk9 => ?_
      refine sh1 F1 ?_
      refine sd ?_
      refine hk9 _ ?_
      refine evL_take 4 fun K10 hk10 => ?_
      refine sh1 F1 ?_
      refine sd ?_
      refine hk10 _ ?_
      refine sh1 F1 ?_
      refine hk8 _ ?_
      refine hn7 (some ([0, 1, 2, 20], none)) _ ?_
      refine ev_cond_k rfl (fun hx => absurd hx (by simp at hx)) (fun hc1 => ?_)
      clear hc1
      refine hn6 (some ([0, 1, 2], none)) _ ?_
      refine ev_seq_k fun K11 hn11 hr11 he11 => ?_
      refine ev_seq_k fun K12 hn12 hr12 he12 => ?_
      refine ev_ops_k fun K13 hk13 => ?_
      refine sh1 F1 ?_
      refine sd ?_
      refine hk13 _ ?_
      refine hn12 (some ([0, 1, 2, 24], none)) _ ?_
      refine ev_cond_k rfl (fun hx => absurd hx (by simp at hx)) (fun hc2 => ?_)
      clear hc2
      refine hn11 (some ([0, 1, 2], none)) _ ?_
      refine ev_seq_k fun K14 hn14 hr14 he14 => ?_
      refine ev_seq_k fun K15 hn15 hr15 he15 => ?_
      refine ev_ops_k fun K16 hk16 => ?_
      refine evL_take 2 fun K17 hk17 => ?_
      refine sh1 F1 ?_
      refine sd ?_
      refine hk17 _ ?_
      refine evL_take 3 fun K18 hk18 => ?_
      refine sh1 F1 ?_
      refine sd ?_
      refine hk18 _ ?_
      refine sh1 F1 ?_
      refine hk16 _ ?_
      refine hn15 (some ([1, 2, 32], none)) _ ?_
      refine ev_cond_k rfl (fun hx => absurd hx (by simp at hx)) (fun hc3 => ?_)
      clear hc3
      refine hn14 (some ([2], none)) _ ?_
      refine ev_seq_k fun K19 hn19 hr19 he19 => ?_
      refine ev_ops_k fun K20 hk20 => ?_
      refine sh1 F1 ?_
      refine hk20 _ ?_
      refine hn19 (some ([6, 7], none)) _ ?_
      exact sf1 F1
  · rw [if_neg (by decide), if_neg (by decide), if_pos rfl]
    unfold evFn sc_r10Do rv_r10Do
    refine ev_seq_k fun K1 hn1 hr1 he1 => ?_
    refine ev_ops_k fun K2 hk2 => ?_
    refine sh0 ?_
    refine hk2 _ ?_
    refine hn1 (some ([0, 1, 2], none)) _ ?_
    refine ev_seq_k fun K3 hn3 hr3 he3 => ?_
    refine ev_seq_k fun K4 hn4 hr4 he4 => ?_
    refine ev_ops_k fun K5 hk5 => ?_
    refine sh0 ?_
    refine sd ?_
    refine hk5 _ ?_
    refine hn4 (some ([0, 1, 2, 9], none)) _ ?_
    refine ev_cond_k rfl (fun hx => absurd hx (by simp at hx)) (fun hc0 => ?_)
    clear hc0
    refine hn3 (some ([0, 1, 2], none)) _ ?_
    refine ev_seq_k fun K6 hn6 hr6 he6 => ?_
    refine ev_seq_k fun K7 hn7 hr7 he7 => ?_
    refine ev_ops_k fun K8 hk8 => ?_
    refine evL_take 2 fun K9 hk9 => ?_
    refine sh0 ?_
    refine sd ?_
    refine hk9 _ ?_
    refine evL_take 4 fun K10 hk10 => ?_
    refine sh0 ?_
    refine sd ?_
    refine hk10 _ ?_
    refine sh0 ?_
    refine hk8 _ ?_
    refine hn7 (some ([0, 1, 2, 20], none)) _ ?_
    refine ev_cond_k rfl (fun hx => absurd hx (by simp at hx)) (fun hc1 => ?_)
    clear hc1
    refine hn6 (some ([0, 1, 2], none)) _ ?_
    refine ev_seq_k fun K11 hn11 hr11 he11 => ?_
    refine ev_seq_k fun K12 hn12 hr12 he12 => ?_
    refine ev_ops_k fun K13 hk13 => ?_
    refine sh0 ?_
    refine sd ?_
    refine hk13 _ ?_
    refine hn12 (some ([0, 1, 2, 24], none)) _ ?_
    refine ev_cond_k rfl (fun hc2 => ?_) (fun hx => absurd hx (by simp at hx))
    clear hc2
    refine ev_seq_k fun K14 hn14 hr14 he14 => ?_
    refine ev_ops_k fun K15 hk15 => ?_
    refine sh0 ?_
    refine hk15 _ ?_
    refine hn14 (some ([6, 7], none)) _ ?_
    refine hr11 _ ?_
    exact sf0
  · rw [if_neg (by decide), if_neg (by decide), if_neg (by decide)]
    by_cases hv : v = 0
    · subst hv
      rw [if_pos rfl]
      unfold evFn sc_r10Do rv_r10Do
      refine ev_seq_k fun K1 hn1 hr1 he1 => ?_
      refine ev_ops_k fun K2 hk2 => ?_
      refine sh0 ?_
      refine hk2 _ ?_
      refine hn1 (some ([0, 1, 2], none)) _ ?_
      refine ev_seq_k fun K3 hn3 hr3 he3 => ?_
      refine ev_seq_k fun K4 hn4 hr4 he4 => ?_
      refine ev_ops_k fun K5 hk5 => ?_
      refine sh0 ?_
      refine sd ?_
      refine hk5 _ ?_
      refine hn4 (some ([0, 1, 2, 9], none)) _ ?_
      refine ev_cond_k rfl (fun hx => absurd hx (by simp at hx)) (fun hc0 => ?_)
      clear hc0
      refine hn3 (some ([0, 1, 2], none)) _ ?_
      refine ev_seq_k fun K6 hn6 hr6 he6 => ?_
      refine ev_seq_k fun K7 hn7 hr7 he7 => ?_
      refine ev_ops_k fun K8 hk8 => ?_
      refine evL_take 2 fun K9 hk9 => ?_
      refine sh0 ?_
      refine sd ?_
      refine hk9 _ ?_
      refine evL_take 4 fun K10 hk10 => ?_
      refine sh0 ?_
      refine sd ?_
      refine hk10 _ ?_
      refine sh0 ?_
      refine hk8 _ ?_
      refine hn7 (some ([0, 1, 2, 20], none)) _ ?_
      refine ev_cond_k rfl (fun hx => absurd hx (by simp at hx)) (fun hc1 => ?_)
      clear hc1
      refine hn6 (some ([0, 1, 2], none)) _ ?_
      refine ev_seq_k fun K11 hn11 hr11 he11 => ?_
      refine ev_seq_k fun K12 hn12 hr12 he12 => ?_
      refine ev_ops_k fun K13 hk13 => ?_
      refine sh0 ?_
      refine sd ?_
      refine hk13 _ ?_
      refine hn12 (some ([0, 1, 2, 24], none)) _ ?_
      refine ev_cond_k rfl (fun hx => absurd hx (by simp at hx)) (fun hc2 => ?_)
      clear hc2
      refine hn11 (some ([0, 1, 2], none)) _ ?_
      refine ev_seq_k fun K14 hn14 hr14 he14 => ?_
      refine ev_seq_k fun K15 hn15 hr15 he15 => ?_
      refine ev_ops_k fun K16 hk16 => ?_
      refine evL_take 2 fun K17 hk17 => ?_
      refine sh0 ?_
      refine sd ?_
      refine hk17 _ ?_
      refine evL_take 3 fun K18 hk18 => ?_
      refine sh0 ?_
      refine sd ?_
      refine hk18 _ ?_
      refine sh0 ?_
      refine hk16 _ ?_
      refine hn15 (some ([1, 2, 32], none)) _ ?_
      refine ev_cond_k rfl (fun hc3 => ?_) (fun hx => absurd hx (by simp at hx))
      clear hc3
      refine ev_seq_k fun K19 hn19 hr19 he19 => ?_
      refine ev_ops_k fun K20 hk20 => ?_
      refine sh0 ?_
      refine hk20 _ ?_
      refine hn19 (some ([6, 7], none)) _ ?_
      refine hr14 _ ?_
      exact sf0
    · rw [if_neg hv]
      have d : (v == 0) = false := by simpa using hv
      unfold evFn sc_r10Do rv_r10Do
      have F1 := @d
      refine ev_seq_k fun K1 hn1 hr1 he1 => ?_
      refine ev_ops_k fun K2 hk2 => ?_
      refine sh1 F1 ?_
      refine hk2 _ ?_
      refine hn1 (some ([0, 1, 2], none)) _ ?_
      refine ev_seq_k fun K3 hn3 hr3 he3 => ?_
      refine ev_seq_k fun K4 hn4 hr4 he4 => ?_
      refine ev_ops_k fun K5 hk5 => ?_
      refine sh1 F1 ?_
      refine sd ?_
      refine hk5 _ ?_
      refine hn4 (some ([0, 1, 2, 9], none)) _ ?_
      refine ev_cond_k rfl (fun hx => absurd hx (by simp at hx)) (fun hc0 => ?_)
      clear hc0
      refine hn3 (some ([0, 1, 2], none)) _ ?_
      refine ev_seq_k fun K6 hn6 hr6 he6 => ?_
      refine ev_seq_k fun K7 hn7 hr7 he7 => ?_
      refine ev_ops_k fun K8 hk8 => ?_
      refine evL_take 2 fun K9 hk9 => ?_
      refine sh1 F1 ?_
      refine sd ?_
      refine hk9 _ ?_
      refine evL_take 4 fun K10 hk10 => ?_
      refine sh1 F1 ?_
      refine sd ?_
      refine hk10 _ ?_
      refine sh1 F1 ?_
      refine hk8 _ ?_
      refine hn7 (some ([0, 1, 2, 20], none)) _ ?_
      refine ev_cond_k rfl (fun hx => absurd hx (by simp at hx)) (fun hc1 => ?_)
      clear hc1
      refine hn6 (some ([0, 1, 2], none)) _ ?_
      refine ev_seq_k fun K11 hn11 hr11 he11 => ?_
      refine ev_seq_k fun K12 hn12 hr12 he12 => ?_
      refine ev_ops_k fun K13 hk13 => ?_
      refine sh1 F1 ?_
      refine sd ?_
      refine hk13 _ ?_
      refine hn12 (some ([0, 1, 2, 24], none)) _ ?_
      refine ev_cond_k rfl (fun hx => absurd hx (by simp at hx)) (fun hc2 => ?_)
      clear hc2
      refine hn11 (some ([0, 1, 2], none)) _ ?_
      refine ev_seq_k fun K14 hn14 hr14 he14 => ?_
      refine ev_seq_k fun K15 hn15 hr15 he15 => ?_
      refine ev_ops_k fun K16 hk16 => ?_
      refine evL_take 2 fun K17 hk17 => ?_
      refine sh1 F1 ?_
      refine sd ?_
      refine hk17 _ ?_
      refine evL_take 3 fun K18 hk18 => ?_
      refine sh1 F1 ?_
      refine sd ?_
      refine hk18 _ ?_
      refine sh1 F1 ?_
      refine hk16 _ ?_
      refine hn15 (some ([1, 2, 32], none)) _ ?_
      refine ev_cond_k rfl (fun hx => absurd hx (by simp at hx)) (fun hc3 => ?_)
      clear hc3
      refine hn14 (some ([2], none)) _ ?_
      refine ev_seq_k fun K19 hn19 hr19 he19 => ?_
      refine ev_ops_k fun K20 hk20 => ?_
      refine sh1 F1 ?_
      refine hk20 _ ?_
      refine hn19 (some ([6, 7], none)) _ ?_
      exact sf1 F1
set_option maxHeartbeats 4000000 in
theorem ok_AtomDoes (o : OpV) (v : Int) : Ok 9 [.agg (eOp o), sI v] (sB true) := by
  refine ok_of_tr Try.func9 tr_AtomDoes rfl ?_
  have ka := ok_l10awake
  have k0 := ok_r10Check o
  have k1 := ok_aNew o
  have k2 := ok_aCheck o
  have k3 := ok_aDo o v
  by_cases h : checkA o = 0
  · have k5 := ok_r10Do o v h
    have k6 := ok_aAnswer (newA o)
    have k7 := ok_aTries (newA o)
    change Ok _ _ (.tup [sI 0, sB false]) at k6
    change Ok _ _ (sI 0) at k7
    rw [if_pos h] at k1
    rw [h] at k0 k2
    generalize doA o v = R at k3 k5
    unfold evFn sc_AtomDoes rv_AtomDoes
    refine ev_seq_k fun K1 hn1 hr1 he1 => ?_
    refine ev_ops_k fun K2 hk2 => ?_
    refine sh0 ?_
    refine hk2 _ ?_
    refine hn1 (some ([1, 2], none)) _ ?_
    refine ev_seq_k fun K3 hn3 hr3 he3 => ?_
    refine ev_ops_k fun K4 hk4 => ?_
    refine evL_take 2 fun K5 hk5 => ?_
    refine sh0 ?_
    refine sd ?_
    refine hk5 _ ?_
    refine evL_take 2 fun K6 hk6 => ?_
    refine sh0 ?_
    refine sd ?_
    refine hk6 _ ?_
    refine evL_take 2 fun K7 hk7 => ?_
    refine sh0 ?_
    refine sd ?_
    refine hk7 _ ?_
    refine evL_take 1 fun K8 hk8 => ?_
    refine sh0 ?_
    refine Or.inl (Or.inl ⟨_, k0, ?_⟩)
    refine hk8 _ ?_
    refine sh0 ?_
    refine hk4 _ ?_
    refine hn3 (some ([1, 2, 5], none)) _ ?_
    refine ev_seq_k fun K9 hn9 hr9 he9 => ?_
    refine ev_ops_k fun K10 hk10 => ?_
    refine evL_take 1 fun K11 hk11 => ?_
    refine sh0 ?_
    refine sd ?_
    refine hk11 _ ?_
    refine evL_take 1 fun K12 hk12 => ?_
    refine sh0 ?_
    refine Or.inl (Or.inl ⟨_, k1, ?_⟩)
    refine hk12 _ ?_
    refine sh0 ?_
    refine hk10 _ ?_
    refine hn9 (some ([1, 2, 5, 6, 7], none)) _ ?_
    refine ev_seq_k fun K13 hn13 hr13 he13 => ?_
    refine ev_seq_k fun K14 hn14 hr14 he14 => ?_
    refine ev_ops_k fun K15 hk15 => ?_
    refine evL_take 1 fun K16 hk16 => ?_
    refine sh0 ?_
    refine sd ?_
    refine hk16 _ ?_
    refine evL_take 1 fun K17 hk17 => ?_
    refine sh0 ?_
    refine Or.inl (Or.inl ⟨_, k2, ?_⟩)
    refine hk17 _ ?_
    refine evL_take 2 fun K18 hk18 => ?_
    refine sh0 ?_
    refine sd ?_
    refine hk18 _ ?_
    refine evL_take 4 fun K19 hk19 => ?_
    refine sh0 ?_
    refine sd ?_
    refine hk19 _ ?_
    refine sh0 ?_
    refine hk15 _ ?_
    refine hn14 (some ([1, 2, 5, 6, 34], none)) _ ?_
    refine ev_cond_k rfl (fun hx => absurd hx (by simp at hx)) (fun hc0 => ?_)
    clear hc0
    refine hn13 (some ([1, 2, 5, 6], none)) _ ?_
    refine ev_seq_k fun K20 hn20 hr20 he20 => ?_
    refine ev_ops_k fun K21 hk21 => ?_
    refine evL_take 1 fun K22 hk22 => ?_
    refine sh0 ?_
    refine sd ?_
    refine hk22 _ ?_
    refine evL_take 1 fun K23 hk23 => ?_
    refine sh0 ?_
    refine hk23 _ ?_
    refine evL_take 1 fun K24 hk24 => ?_
    refine sh0 ?_
    refine Or.inl (Or.inl ⟨_, k3, ?_⟩)
    refine hk24 _ ?_
    refine sh0 ?_
    refine hk21 _ ?_
    refine hn20 (some ([1, 2, 5, 6, 8, 9], none)) _ ?_
    refine ev_seq_k fun K25 hn25 hr25 he25 => ?_
    refine ev_seq_k fun K26 hn26 hr26 he26 => ?_
    refine ev_ops_k fun K27 hk27 => ?_
    refine sh0 ?_
    refine sd ?_
    refine hk27 _ ?_
    refine hn26 (some ([1, 2, 6, 8, 9, 42], none)) _ ?_
    refine ev_cond_k rfl (fun hx => absurd hx (by simp at hx)) (fun hc1 => ?_)
    clear hc1
    refine hn25 (some ([1, 2, 6, 8, 9], none)) _ ?_
    refine ev_seq_k fun K28 hn28 hr28 he28 => ?_
    refine ev_ops_k fun K29 hk29 => ?_
    refine evL_take 2 fun K30 hk30 => ?_
    refine sh0 ?_
    refine sd ?_
    refine hk30 _ ?_
    refine evL_take 2 fun K31 hk31 => ?_
    refine sh0 ?_
    refine sd ?_
    refine hk31 _ ?_
    refine evL_take 1 fun K32 hk32 => ?_
    refine sh0 ?_
    refine hk32 _ ?_
    refine evL_take 1 fun K33 hk33 => ?_
    refine sh0 ?_
    refine Or.inl (Or.inl ⟨_, k5, ?_⟩)
    refine hk33 _ ?_
    refine sh0 ?_
    refine hk29 _ ?_
    refine hn28 (some ([6, 8, 9, 10, 11], none)) _ ?_
    refine ev_seq_k fun K34 hn34 hr34 he34 => ?_
    refine ev_ops_k fun K35 hk35 => ?_
    refine evL_take 1 fun K36 hk36 => ?_
    refine sh0 ?_
    refine hk36 _ ?_
    refine evL_take 1 fun K37 hk37 => ?_
    refine sh0 ?_
    refine Or.inl (Or.inl ⟨_, k6, ?_⟩)
    refine hk37 _ ?_
    refine sh0 ?_
    refine hk35 _ ?_
    refine hn34 (some ([6, 8, 9, 10, 11, 12, 13], none)) _ ?_
    refine ev_seq_k fun K38 hn38 hr38 he38 => ?_
    refine ev_ops_k fun K39 hk39 => ?_
    refine evL_take 3 fun K40 hk40 => ?_
    refine sh0 ?_
    refine sd ?_
    refine hk40 _ ?_
    refine evL_take 4 fun K41 hk41 => ?_
    refine sh0 ?_
    refine sd ?_
    refine hk41 _ ?_
    refine evL_take 3 fun K42 hk42 => ?_
    refine sh0 ?_
    refine hk42 _ ?_
    refine evL_take 1 fun K43 hk43 => ?_
    refine sh0 ?_
    refine ⟨_, gen_some_neq codeIface, ?_⟩
    refine hk43 _ ?_
    refine evL_take 4 fun K44 hk44 => ?_
    refine sh0 ?_
    refine sd ?_
    refine hk44 _ ?_
    refine evL_take 7 fun K45 hk45 => ?_
    refine sh0 ?_
    refine hk45 _ ?_
    refine evL_take 1 fun K46 hk46 => ?_
    refine sh0 ?_
    refine Or.inl (Or.inl ⟨_, k7, ?_⟩)
    refine hk46 _ ?_
    refine evL_take 1 fun K47 hk47 => ?_
    refine sh0 ?_
    refine sd ?_
    refine hk47 _ ?_
    refine evL_take 2 fun K48 hk48 => ?_
    refine sh0 ?_
    refine hk48 _ ?_
    refine evL_take 1 fun K49 hk49 => ?_
    refine sh0 ?_
    refine Or.inl (Or.inl ⟨_, ka, ?_⟩)
    refine hk49 _ ?_
    refine sh0 ?_
    refine hk39 _ ?_
    refine hn38 (some ([4], none)) _ ?_
    exact sf0
  · rw [if_neg h] at k1
    have hd : doA o v = (v, 0) := by unfold doA; rw [if_neg h]
    rw [hd] at k3
    have hb : 0 ≤ checkA o ∧ checkA o ≤ 4 := by unfold checkA; repeat' split <;> omega
    have d : (checkA o != 0) = true := by simpa using h
    have hw : IntKind.i64.wrap (checkA o) = checkA o := by rw [IntKind.wrap_i64]; omega
    generalize checkA o = e at k0 k1 k2 d hw
    unfold evFn sc_AtomDoes rv_AtomDoes
    have F1 := And.intro @d @hw
    refine ev_seq_k fun K1 hn1 hr1 he1 => ?_
    refine ev_ops_k fun K2 hk2 => ?_
    refine sh1 F1 ?_
    refine hk2 _ ?_
    refine hn1 (some ([1, 2], none)) _ ?_
    refine ev_seq_k fun K3 hn3 hr3 he3 => ?_
    refine ev_ops_k fun K4 hk4 => ?_
    refine evL_take 2 fun K5 hk5 => ?_
    refine sh1 F1 ?_
    refine sd ?_
    refine hk5 _ ?_
    refine evL_take 2 fun K6 hk6 => ?_
    refine sh1 F1 ?_
    refine sd ?_
    refine hk6 _ ?_
    refine evL_take 2 fun K7 hk7 => ?_
    refine sh1 F1 ?_
    refine sd ?_
    refine hk7 _ ?_
    refine evL_take 1 fun K8 hk8 => ?_
    refine sh1 F1 ?_
    refine Or.inl (Or.inl ⟨_, k0, ?_⟩)
    refine hk8 _ ?_
    refine sh1 F1 ?_
    refine hk4 _ ?_
    refine hn3 (some ([1, 2, 5], none)) _ ?_
    refine ev_seq_k fun K9 hn9 hr9 he9 => ?_
    refine ev_ops_k fun K10 hk10 => ?_
    refine evL_take 1 fun K11 hk11 => ?_
    refine sh1 F1 ?_
    refine sd ?_
    refine hk11 _ ?_
    refine evL_take 1 fun K12 hk12 => ?_
    refine sh1 F1 ?_
    refine Or.inl (Or.inl ⟨_, k1, ?_⟩)
    refine hk12 _ ?_
    refine sh1 F1 ?_
    refine hk10 _ ?_
    refine hn9 (some ([1, 2, 5, 6, 7], none)) _ ?_
    refine ev_seq_k fun K13 hn13 hr13 he13 => ?_
    refine ev_seq_k fun K14 hn14 hr14 he14 => ?_
    refine ev_ops_k fun K15 hk15 => ?_
    refine evL_take 1 fun K16 hk16 => ?_
    refine sh1 F1 ?_
    refine sd ?_
    refine hk16 _ ?_
    refine evL_take 1 fun K17 hk17 => ?_
    refine sh1 F1 ?_
    refine Or.inl (Or.inl ⟨_, k2, ?_⟩)
    refine hk17 _ ?_
    refine evL_take 2 fun K18 hk18 => ?_
    refine sh1 F1 ?_
    refine sd ?_
    refine hk18 _ ?_
    refine evL_take 4 fun K19 hk19 => ?_
    refine sh1 F1 ?_
    refine sd ?_
    refine hk19 _ ?_
    refine sh1 F1 ?_
    refine hk15 _ ?_
    refine hn14 (some ([1, 2, 5, 6, 34], none)) _ ?_
    refine ev_cond_k rfl (fun hx => absurd hx (by simp at hx)) (fun hc0 => ?_)
    clear hc0
    refine hn13 (some ([1, 2, 5, 6], none)) _ ?_
    refine ev_seq_k fun K20 hn20 hr20 he20 => ?_
    refine ev_ops_k fun K21 hk21 => ?_
    refine evL_take 1 fun K22 hk22 => ?_
    refine sh1 F1 ?_
    refine sd ?_
    refine hk22 _ ?_
    refine evL_take 1 fun K23 hk23 => ?_
    refine sh1 F1 ?_
    refine hk23 _ ?_
    refine evL_take 1 fun K24 hk24 => ?_
    refine sh1 F1 ?_
    refine Or.inl (Or.inl ⟨_, k3, ?_⟩)
    refine hk24 _ ?_
    refine sh1 F1 ?_
    refine hk21 _ ?_
    refine hn20 (some ([1, 2, 5, 6, 8, 9], none)) _ ?_
    refine ev_seq_k fun K25 hn25 hr25 he25 => ?_
    refine ev_seq_k fun K26 hn26 hr26 he26 => ?_
    refine ev_ops_k fun K27 hk27 => ?_
    refine sh1 F1 ?_
    refine sd ?_
    refine hk27 _ ?_
    refine hn26 (some ([1, 2, 6, 8, 9, 42], none)) _ ?_
    refine ev_cond_k rfl (fun hc1 => ?_) (fun hx => absurd hx (by simp at hx))
    clear hc1
    refine ev_seq_k fun K28 hn28 hr28 he28 => ?_
    refine ev_ops_k fun K29 hk29 => ?_
    refine evL_take 3 fun K30 hk30 => ?_
    refine sh1 F1 ?_
    refine sd ?_
    refine hk30 _ ?_
    refine evL_take 3 fun K31 hk31 => ?_
    refine sh1 F1 ?_
    refine sd ?_
    refine hk31 _ ?_
    refine evL_take 3 fun K32 hk32 => ?_
    refine sh1 F1 ?_
    refine hk32 _ ?_
    refine evL_take 1 fun K33 hk33 => ?_
    refine sh1 F1 ?_
    refine ⟨_, gen_nil_eq codeIface, ?_⟩
    refine hk33 _ ?_
    refine evL_take 2 fun K34 hk34 => ?_
    refine sh1 F1 ?_
    refine hk34 _ ?_
    refine evL_take 1 fun K35 hk35 => ?_
    refine sh1 F1 ?_
    refine Or.inl (Or.inl ⟨_, ka, ?_⟩)
    refine hk35 _ ?_
    refine sh1 F1 ?_
    refine hk29 _ ?_
    refine hn28 (some ([4], none)) _ ?_
    refine hr25 _ ?_
    exact sf1 F1

/-! ### Codes of other kinds -/
theorem infoACode : (Try.prog.info? 141).map (fun i => (i.zero, i.size, i.bytes)) = some (some (.agg #[.int .i64 0, .int .i64 0, .int .i64 0, .bool false, .bool false, .bool false, .int .i64 0, .int .i64 0]), 8, 48) := by kernel_rfl
abbrev zACells : List Sh := [sI 0, sI 0, sI 0, sB false, sB false, sB false, sI 0, sI 0]
theorem zA_rep (H : Hp) : Rep H E0 (.agg zACells) (.agg #[.int .i64 0, .int .i64 0, .int .i64 0, .bool false, .bool false, .bool false, .int .i64 0, .int .i64 0]) := by
  have := Rep.agg (E := E0) (zs_rep H E0 [.int .i64, .int .i64, .int .i64, .bool, .bool, .bool, .int .i64, .int .i64]) (zs_one _)
  simpa [ZSh.sh, ZSh.val] using this
theorem zA_run (w : World) : (zeroValue 141).run Try.prog w = .ok (.agg #[.int .i64 0, .int .i64 0, .int .i64 0, .bool false, .bool false, .bool false, .int .i64 0, .int .i64 0]) w := by
  obtain ⟨i, hi, hz, _⟩ := info_parts infoACode
  exact run_zero hi hz w
theorem ok_aAnswer_no {t : TypeId} {x : Sh} (h : t ≠ 141) : Ok 43 [.ifc t x] (.tup [sI 0, sB false]) := by
  refine ok_of_tr Try.func43 tr_aAnswer rfl ?_
  unfold evFn sc_aAnswer rv_aAnswer
  refine ev_seq_k fun K1 hn1 hr1 he1 => ?_
  refine ev_ops_k fun K2 hk2 => ?_
  refine sh0 ?_
  refine hk2 _ ?_
  refine hn1 (some ([0], none)) _ ?_
  refine ev_seq_k fun K3 hn3 hr3 he3 => ?_
  refine ev_ops_k fun K4 hk4 => ?_
  refine evL_take 1 fun K5 hk5 => ?_
  refine sh0 ?_
  refine hk5 _ ?_
  refine evL_take 1 fun K6 hk6 => ?_
  refine sh0 ?_
  refine ⟨_, gen_asr_no Try.underlying141 rfl h zA_run zA_rep, ?_⟩
  refine hk6 _ ?_
  refine evL_take 5 fun K7 hk7 => ?_
  refine sh0 ?_
  refine sd ?_
  refine hk7 _ ?_
  refine sh0 ?_
  refine hk4 _ ?_
  refine hn3 (some ([4, 5], none)) _ ?_
  refine ev_seq_k fun K8 hn8 hr8 he8 => ?_
  refine ev_seq_k fun K9 hn9 hr9 he9 => ?_
  refine ev_ops_k fun K10 hk10 => ?_
  refine evL_take 5 fun K11 hk11 => ?_
  refine sh0 ?_
  refine sd ?_
  refine hk11 _ ?_
  refine sh0 ?_
  refine hk10 _ ?_
  refine hn9 (some ([4, 17], none)) _ ?_
  refine ev_cond_k rfl (fun hc0 => ?_) (fun hx => absurd hx (by simp at hx))
  clear hc0
  refine ev_seq_k fun K12 hn12 hr12 he12 => ?_
  refine ev_ops_k fun K13 hk13 => ?_
  refine sh0 ?_
  refine hk13 _ ?_
  refine hn12 (some ([2, 3], none)) _ ?_
  refine hr8 _ ?_
  exact sf0
theorem ok_aAnswer_nil : Ok 43 [.v .nilIface] (.tup [sI 0, sB false]) := by
  refine ok_of_tr Try.func43 tr_aAnswer rfl ?_
  unfold evFn sc_aAnswer rv_aAnswer
  refine ev_seq_k fun K1 hn1 hr1 he1 => ?_
  refine ev_ops_k fun K2 hk2 => ?_
  refine sh0 ?_
  refine hk2 _ ?_
  refine hn1 (some ([0], none)) _ ?_
  refine ev_seq_k fun K3 hn3 hr3 he3 => ?_
  refine ev_ops_k fun K4 hk4 => ?_
  refine evL_take 1 fun K5 hk5 => ?_
  refine sh0 ?_
  refine hk5 _ ?_
  refine evL_take 1 fun K6 hk6 => ?_
  refine sh0 ?_
  refine ⟨_, gen_asr_nil Try.underlying141 rfl zA_run zA_rep, ?_⟩
  refine hk6 _ ?_
  refine evL_take 5 fun K7 hk7 => ?_
  refine sh0 ?_
  refine sd ?_
  refine hk7 _ ?_
  refine sh0 ?_
  refine hk4 _ ?_
  refine hn3 (some ([4, 5], none)) _ ?_
  refine ev_seq_k fun K8 hn8 hr8 he8 => ?_
  refine ev_seq_k fun K9 hn9 hr9 he9 => ?_
  refine ev_ops_k fun K10 hk10 => ?_
  refine evL_take 5 fun K11 hk11 => ?_
  refine sh0 ?_
  refine sd ?_
  refine hk11 _ ?_
  refine sh0 ?_
  refine hk10 _ ?_
  refine hn9 (some ([4, 17], none)) _ ?_
  refine ev_cond_k rfl (fun hc0 => ?_) (fun hx => absurd hx (by simp at hx))
  clear hc0
  refine ev_seq_k fun K12 hn12 hr12 he12 => ?_
  refine ev_ops_k fun K13 hk13 => ?_
  refine sh0 ?_
  refine hk13 _ ?_
  refine hn12 (some ([2, 3], none)) _ ?_
  refine hr8 _ ?_
  exact sf0
theorem ok_aTries_no {t : TypeId} {x : Sh} (h : t ≠ 141) : Ok 44 [.ifc t x] (sI 0) := by
  refine ok_of_tr Try.func44 tr_aTries rfl ?_
  unfold evFn sc_aTries rv_aTries
  refine ev_seq_k fun K1 hn1 hr1 he1 => ?_
  refine ev_ops_k fun K2 hk2 => ?_
  refine sh0 ?_
  refine hk2 _ ?_
  refine hn1 (some ([0], none)) _ ?_
  refine ev_seq_k fun K3 hn3 hr3 he3 => ?_
  refine ev_ops_k fun K4 hk4 => ?_
  refine evL_take 1 fun K5 hk5 => ?_
  refine sh0 ?_
  refine hk5 _ ?_
  refine evL_take 1 fun K6 hk6 => ?_
  refine sh0 ?_
  refine ⟨_, gen_asr_no Try.underlying141 rfl h zA_run zA_rep, ?_⟩
  refine hk6 _ ?_
  refine evL_take 5 fun K7 hk7 => ?_
  refine sh0 ?_
  refine sd ?_
  refine hk7 _ ?_
  refine sh0 ?_
  refine hk4 _ ?_
  refine hn3 (some ([3], none)) _ ?_
  refine ev_seq_k fun K8 hn8 hr8 he8 => ?_
  refine ev_ops_k fun K9 hk9 => ?_
  refine evL_take 2 fun K10 hk10 => ?_
  refine sh0 ?_
  refine sd ?_
  refine hk10 _ ?_
  refine sh0 ?_
  refine hk9 _ ?_
  refine hn8 (some ([2], none)) _ ?_
  exact sf0
theorem ok_aTries_nil : Ok 44 [.v .nilIface] (sI 0) := by
  refine ok_of_tr Try.func44 tr_aTries rfl ?_
  unfold evFn sc_aTries rv_aTries
  refine ev_seq_k fun K1 hn1 hr1 he1 => ?_
  refine ev_ops_k fun K2 hk2 => ?_
  refine sh0 ?_
  refine hk2 _ ?_
  refine hn1 (some ([0], none)) _ ?_
  refine ev_seq_k fun K3 hn3 hr3 he3 => ?_
  refine ev_ops_k fun K4 hk4 => ?_
  refine evL_take 1 fun K5 hk5 => ?_
  refine sh0 ?_
  refine hk5 _ ?_
  refine evL_take 1 fun K6 hk6 => ?_
  refine sh0 ?_
  refine ⟨_, gen_asr_nil Try.underlying141 rfl zA_run zA_rep, ?_⟩
  refine hk6 _ ?_
  refine evL_take 5 fun K7 hk7 => ?_
  refine sh0 ?_
  refine sd ?_
  refine hk7 _ ?_
  refine sh0 ?_
  refine hk4 _ ?_
  refine hn3 (some ([3], none)) _ ?_
  refine ev_seq_k fun K8 hn8 hr8 he8 => ?_
  refine ev_ops_k fun K9 hk9 => ?_
  refine evL_take 2 fun K10 hk10 => ?_
  refine sh0 ?_
  refine sd ?_
  refine hk10 _ ?_
  refine sh0 ?_
  refine hk9 _ ?_
  refine hn8 (some ([2], none)) _ ?_
  exact sf0
set_option maxHeartbeats 8000000 in
theorem ok_AtomOthers (o : OpV) (w v : WordV) : Ok 10 [.agg (eOp o), .agg (eWord w), .agg (eWord v)] (sB true) := by
  refine ok_of_tr Try.func10 tr_AtomOthers rfl ?_
  have ka := ok_l10awake
  have k0 : Ok 43 [.ifc 112 (.agg [])] (.tup [sI 0, sB false]) := ok_aAnswer_no (by decide)
  have k1 := ok_aAnswer_nil
  have k2 : Ok 44 [.ifc 112 (.agg [])] (sI 0) := ok_aTries_no (by decide)
  have k3 := ok_aTries_nil
  have k4 := ok_aNew o
  by_cases h : checkA o = 0
  case neg =>
    rw [if_neg h] at k4
    have d : (checkA o != 0) = true := by simpa using h
    generalize checkA o = e at k4 d
    unfold evFn sc_AtomOthers rv_AtomOthers
    have F1 := @d
    refine ev_seq_k fun K1 hn1 hr1 he1 => ?_
    refine ev_ops_k fun K2 hk2 => ?_
    refine sh1 F1 ?_
    refine hk2 _ ?_
    refine hn1 (some ([3, 4, 5], none)) _ ?_
    refine ev_seq_k fun K3 hn3 hr3 he3 => ?_
    refine ev_ops_k fun K4 hk4 => ?_
    refine evL_take 2 fun K5 hk5 => ?_
    refine sh1 F1 ?_
    refine hk5 _ ?_
    refine evL_take 1 fun K6 hk6 => ?_
    refine sh1 F1 ?_
    refine Or.inl (Or.inl ⟨_, k0, ?_⟩)
    refine hk6 _ ?_
    refine sh1 F1 ?_
    refine hk4 _ ?_
    refine hn3 (some ([3, 4, 5, 7, 8], none)) _ ?_
    refine ev_seq_k fun K7 hn7 hr7 he7 => ?_
    refine ev_ops_k fun K8 hk8 => ?_
    refine evL_take 1 fun K9 hk9 => ?_
    refine sh1 F1 ?_
    refine Or.inl (Or.inl ⟨_, k1, ?_⟩)
    refine hk9 _ ?_
    refine sh1 F1 ?_
    refine hk8 _ ?_
    refine hn7 (some ([3, 4, 5, 7, 8, 9, 10], none)) _ ?_
    refine ev_seq_k fun K10 hn10 hr10 he10 => ?_
    refine ev_seq_k fun K11 hn11 hr11 he11 => ?_
    refine ev_ops_k fun K12 hk12 => ?_
    refine evL_take 2 fun K13 hk13 => ?_
    refine sh1 F1 ?_
    refine sd ?_
    refine hk13 _ ?_
    refine evL_take 3 fun K14 hk14 => ?_
    refine sh1 F1 ?_
    refine sd ?_
    refine hk14 _ ?_
    refine evL_take 10 fun K15 hk15 => ?_
    refine sh1 F1 ?_
    refine hk15 _ ?_
    refine evL_take 1 fun K16 hk16 => ?_
    refine sh1 F1 ?_
    refine Or.inl (Or.inl ⟨_, k2, ?_⟩)
    refine hk16 _ ?_
    refine evL_take 1 fun K17 hk17 => ?_
    refine sh1 F1 ?_
    refine sd ?_
    refine hk17 _ ?_
    refine evL_take 2 fun K18 hk18 => ?_
    refine sh1 F1 ?_
    refine hk18 _ ?_
    refine evL_take 1 fun K19 hk19 => ?_
    refine sh1 F1 ?_
    refine Or.inl (Or.inl ⟨_, k3, ?_⟩)
    refine hk19 _ ?_
    refine evL_take 1 fun K20 hk20 => ?_
    refine sh1 F1 ?_
    refine sd ?_
    refine hk20 _ ?_
    refine sh1 F1 ?_
    refine hk12 _ ?_
    refine hn11 (some ([3, 4, 5, 57], none)) _ ?_
    refine ev_cond_k rfl (fun hx => absurd hx (by simp at hx)) (fun hc0 => ?_)
    clear hc0
    refine hn10 (some ([3, 4, 5], none)) _ ?_
    refine ev_seq_k fun K21 hn21 hr21 he21 => ?_
    refine ev_ops_k fun K22 hk22 => ?_
    refine evL_take 1 fun K23 hk23 => ?_
    refine sh1 F1 ?_
    refine sd ?_
    refine hk23 _ ?_
    refine evL_take 1 fun K24 hk24 => ?_
    refine sh1 F1 ?_
    refine Or.inl (Or.inl ⟨_, k4, ?_⟩)
    refine hk24 _ ?_
    refine sh1 F1 ?_
    refine hk22 _ ?_
    refine hn21 (some ([4, 5, 11, 12], none)) _ ?_
    refine ev_seq_k fun K25 hn25 hr25 he25 => ?_
    refine ev_seq_k fun K26 hn26 hr26 he26 => ?_
    refine ev_ops_k fun K27 hk27 => ?_
    refine evL_take 2 fun K28 hk28 => ?_
    refine sh1 F1 ?_
    refine sd ?_
    refine hk28 _ ?_
    refine evL_take 2 fun K29 hk29 => ?_
    refine sh1 F1 ?_
    refine hk29 _ ?_
    refine evL_take 1 fun K30 hk30 => ?_
    refine sh1 F1 ?_
    skip
    refine hk30 _ ?_
    refine sh1 F1 ?_
    refine hk27 _ ?_
    refine hn26 (some ([4, 5, 11, 68], none)) _ ?_
    refine ev_cond_k rfl (fun hc1 => ?_) (fun hx => absurd hx (by simp at hx))
    clear hc1
    refine ev_seq_k fun K31 hn31 hr31 he31 => ?_
    refine ev_ops_k fun K32 hk32 => ?_
    refine evL_take 1 fun K33 hk33 => ?_
    refine sh1 F1 ?_
    refine Or.inl (Or.inl ⟨_, ka, ?_⟩)
    refine hk33 _ ?_
    refine sh1 F1 ?_
    refine hk32 _ ?_
    refine hn31 (some ([6], none)) _ ?_
    refine hr25 _ ?_
    exact sf1 F1
  rw [if_pos h] at k4
  have n1 := ok_aNext (newA o) zGot (n := 0) ⟨Int.le_refl _, Int.le_refl _⟩ (by decide)
  have e1 : atmNext (newA o) zGot = (⟨o, true, false, false, 0, 0⟩, ⟨5, o.loc, zWord, zWord⟩, false) := rfl
  rw [e1] at n1
  have n2 := fun g => ok_aNext ⟨o, true, false, false, 0, 0⟩ g (n := 0) ⟨Int.le_refl _, Int.le_refl _⟩ (by decide)
  have n2w := n2 ⟨w, true⟩
  have n2v := n2 ⟨v, true⟩
  generalize atmNext ⟨o, true, false, false, 0, 0⟩ ⟨w, true⟩ = R at n2w
  generalize atmNext ⟨o, true, false, false, 0, 0⟩ ⟨v, true⟩ = R2 at n2v
  have k6 := ok_aAnswer R.1
  generalize (if R.1.fin = true then R.1.answer else 0) = z at k6
  change Ok 136 [.agg [sI o.kind, sI o.loc, sI o.n, sB false, sB false, sB false, sI 0, sI 0], .agg [sI 0, sU 0, sU 0, sB false]] (.tup [.ifc 141 (.agg [sI o.kind, sI o.loc, sI o.n, sB true, sB false, sB false, sI 0, sI 0]), .agg (eAct4 ⟨5, o.loc, zWord, zWord⟩), sB false]) at n1
  change Ok 136 [.agg [sI o.kind, sI o.loc, sI o.n, sB true, sB false, sB false, sI 0, sI 0], .agg [sI w.val, sU w.ver, sU w.ref, sB true]] _ at n2w
  change Ok 136 [.agg [sI o.kind, sI o.loc, sI o.n, sB true, sB false, sB false, sI 0, sI 0], .agg [sI v.val, sU v.ver, sU v.ref, sB true]] _ at n2v
  change Ok 39 _ (.tup [.ifc 141 (.agg [sI o.kind, sI o.loc, sI o.n, sB false, sB false, sB false, sI 0, sI 0]), sI 0]) at k4
  unfold evFn sc_AtomOthers rv_AtomOthers
  refine ev_seq_k fun K1 hn1 hr1 he1 => ?_
  refine ev_ops_k fun K2 hk2 => ?_
  refine sh0 ?_
  refine hk2 _ ?_
  refine hn1 (some ([3, 4, 5], none)) _ ?_
  refine ev_seq_k fun K3 hn3 hr3 he3 => ?_
  refine ev_ops_k fun K4 hk4 => ?_
  refine evL_take 2 fun K5 hk5 => ?_
  refine sh0 ?_
  refine hk5 _ ?_
  refine evL_take 1 fun K6 hk6 => ?_
  refine sh0 ?_
  refine Or.inl (Or.inl ⟨_, k0, ?_⟩)
  refine hk6 _ ?_
  refine sh0 ?_
  refine hk4 _ ?_
  refine hn3 (some ([3, 4, 5, 7, 8], none)) _ ?_
  refine ev_seq_k fun K7 hn7 hr7 he7 => ?_
  refine ev_ops_k fun K8 hk8 => ?_
  refine evL_take 1 fun K9 hk9 => ?_
  refine sh0 ?_
  refine Or.inl (Or.inl ⟨_, k1, ?_⟩)
  refine hk9 _ ?_
  refine sh0 ?_
  refine hk8 _ ?_
  refine hn7 (some ([3, 4, 5, 7, 8, 9, 10], none)) _ ?_
  refine ev_seq_k fun K10 hn10 hr10 he10 => ?_
  refine ev_seq_k fun K11 hn11 hr11 he11 => ?_
  refine ev_ops_k fun K12 hk12 => ?_
  refine evL_take 2 fun K13 hk13 => ?_
  refine sh0 ?_
  refine sd ?_
  refine hk13 _ ?_
  refine evL_take 3 fun K14 hk14 => ?_
  refine sh0 ?_
  refine sd ?_
  refine hk14 _ ?_
  refine evL_take 10 fun K15 hk15 => ?_
  refine sh0 ?_
  refine hk15 _ ?_
  refine evL_take 1 fun K16 hk16 => ?_
  refine sh0 ?_
  refine Or.inl (Or.inl ⟨_, k2, ?_⟩)
  refine hk16 _ ?_
  refine evL_take 1 fun K17 hk17 => ?_
  refine sh0 ?_
  refine sd ?_
  refine hk17 _ ?_
  refine evL_take 2 fun K18 hk18 => ?_
  refine sh0 ?_
  refine hk18 _ ?_
  refine evL_take 1 fun K19 hk19 => ?_
  refine sh0 ?_
  refine Or.inl (Or.inl ⟨_, k3, ?_⟩)
  refine hk19 _ ?_
  refine evL_take 1 fun K20 hk20 => ?_
  refine sh0 ?_
  refine sd ?_
  refine hk20 _ ?_
  refine sh0 ?_
  refine hk12 _ ?_
  refine hn11 (some ([3, 4, 5, 57], none)) _ ?_
  refine ev_cond_k rfl (fun hx => absurd hx (by simp at hx)) (fun hc0 => ?_)
  clear hc0
  refine hn10 (some ([3, 4, 5], none)) _ ?_
  refine ev_seq_k fun K21 hn21 hr21 he21 => ?_
  refine ev_ops_k fun K22 hk22 => ?_
  refine evL_take 1 fun K23 hk23 => ?_
  refine sh0 ?_
  refine sd ?_
  refine hk23 _ ?_
  refine evL_take 1 fun K24 hk24 => ?_
  refine sh0 ?_
  refine Or.inl (Or.inl ⟨_, k4, ?_⟩)
  refine hk24 _ ?_
  refine sh0 ?_
  refine hk22 _ ?_
  refine hn21 (some ([4, 5, 11, 12], none)) _ ?_
  refine ev_seq_k fun K25 hn25 hr25 he25 => ?_
  refine ev_seq_k fun K26 hn26 hr26 he26 => ?_
  refine ev_ops_k fun K27 hk27 => ?_
  refine evL_take 2 fun K28 hk28 => ?_
  refine sh0 ?_
  refine sd ?_
  refine hk28 _ ?_
  refine evL_take 2 fun K29 hk29 => ?_
  refine sh0 ?_
  refine hk29 _ ?_
  refine evL_take 1 fun K30 hk30 => ?_
  refine sh0 ?_
  refine ⟨_, gen_some_eq codeIface, ?_⟩
  refine hk30 _ ?_
  refine sh0 ?_
  refine hk27 _ ?_
  refine hn26 (some ([4, 5, 11, 68], none)) _ ?_
  refine ev_cond_k rfl (fun hx => absurd hx (by simp at hx)) (fun hc1 => ?_)
  clear hc1
  refine hn25 (some ([4, 5, 11], none)) _ ?_
  refine ev_seq_k fun K31 hn31 hr31 he31 => ?_
  refine ev_ops_k fun K32 hk32 => ?_
  refine evL_take 2 fun K33 hk33 => ?_
  refine sh0 ?_
  refine hk33 _ ?_
  refine evL_take 1 fun K34 hk34 => ?_
  refine sh0 ?_
  refine ⟨_, gen_inv next_atm enters_atm n1, ?_⟩
  refine hk34 _ ?_
  refine evL_take 7 fun K35 hk35 => ?_
  refine sh0 ?_
  refine sd ?_
  refine hk35 _ ?_
  refine sh0 ?_
  refine hk32 _ ?_
  refine hn31 (some ([4, 5, 13, 15], none)) _ ?_
  refine ev_seq_k fun K36 hn36 hr36 he36 => ?_
  refine ev_seq_k fun K37 hn37 hr37 he37 => ?_
  refine ev_ops_k fun K38 hk38 => ?_
  refine evL_take 3 fun K39 hk39 => ?_
  refine sh0 ?_
  refine hk39 _ ?_
  refine evL_take 1 fun K40 hk40 => ?_
  refine sh0 ?_
  refine ⟨_, gen_some_eq codeIface, ?_⟩
  refine hk40 _ ?_
  refine sh0 ?_
  refine hk38 _ ?_
  refine hn37 (some ([4, 5, 13, 81], none)) _ ?_
  refine ev_cond_k rfl (fun hx => absurd hx (by simp at hx)) (fun hc2 => ?_)
  clear hc2
  refine hn36 (some ([4, 5, 13], none)) _ ?_
  refine ev_seq_k fun K41 hn41 hr41 he41 => ?_
  refine ev_ops_k fun K42 hk42 => ?_
  refine evL_take 2 fun K43 hk43 => ?_
  refine sh0 ?_
  refine sd ?_
  refine hk43 _ ?_
  refine evL_take 1 fun K44 hk44 => ?_
  refine sh0 ?_
  refine hk44 _ ?_
  refine evL_take 1 fun K45 hk45 => ?_
  refine sh0 ?_
  refine ⟨_, gen_inv next_atm enters_atm n2w, ?_⟩
  refine hk45 _ ?_
  refine evL_take 7 fun K46 hk46 => ?_
  refine sh0 ?_
  refine sd ?_
  refine hk46 _ ?_
  refine sh0 ?_
  refine hk42 _ ?_
  refine hn41 (some ([4, 5, 13, 16, 17], none)) _ ?_
  refine ev_seq_k fun K47 hn47 hr47 he47 => ?_
  refine ev_ops_k fun K48 hk48 => ?_
  refine evL_take 2 fun K49 hk49 => ?_
  refine sh0 ?_
  refine sd ?_
  refine hk49 _ ?_
  refine evL_take 1 fun K50 hk50 => ?_
  refine sh0 ?_
  refine hk50 _ ?_
  refine sh0 ?_
  refine ⟨_, gen_inv next_atm enters_atm n2v, ?_⟩
  refine hk48 _ ?_
  refine hn47 (some ([4, 13, 16, 17], none)) _ ?_
  refine ev_seq_k fun K51 hn51 hr51 he51 => ?_
  refine ev_ops_k fun K52 hk52 => ?_
  refine evL_take 2 fun K53 hk53 => ?_
  refine sh0 ?_
  refine sd ?_
  refine hk53 _ ?_
  refine evL_take 1 fun K54 hk54 => ?_
  refine sh0 ?_
  refine hk54 _ ?_
  refine evL_take 1 fun K55 hk55 => ?_
  refine sh0 ?_
  refine ⟨_, gen_inv next_atm enters_atm n2w, ?_⟩
  refine hk55 _ ?_
  refine evL_take 7 fun K56 hk56 => ?_
  refine sh0 ?_
  refine sd ?_
  refine hk56 _ ?_
  refine sh0 ?_
  refine hk52 _ ?_
  refine hn51 (some ([16, 17, 19, 20], none)) _ ?_
  refine ev_seq_k fun K57 hn57 hr57 he57 => ?_
  refine ev_ops_k fun K58 hk58 => ?_
  refine evL_take 1 fun K59 hk59 => ?_
  refine sh0 ?_
  refine hk59 _ ?_
  refine evL_take 1 fun K60 hk60 => ?_
  refine sh0 ?_
  refine Or.inl (Or.inl ⟨_, k6, ?_⟩)
  refine hk60 _ ?_
  refine sh0 ?_
  refine hk58 _ ?_
  refine hn57 (some ([17, 19, 20, 22, 23], none)) _ ?_
  refine ev_seq_k fun K61 hn61 hr61 he61 => ?_
  refine ev_ops_k fun K62 hk62 => ?_
  refine evL_take 1 fun K63 hk63 => ?_
  refine sh0 ?_
  refine hk63 _ ?_
  refine evL_take 1 fun K64 hk64 => ?_
  refine sh0 ?_
  refine Or.inl (Or.inl ⟨_, k6, ?_⟩)
  refine hk64 _ ?_
  refine sh0 ?_
  refine hk62 _ ?_
  refine hn61 (some ([17, 20, 22, 23, 24, 25], none)) _ ?_
  refine ev_seq_k fun K65 hn65 hr65 he65 => ?_
  refine ev_ops_k fun K66 hk66 => ?_
  refine evL_take 1 fun K67 hk67 => ?_
  refine sh0 ?_
  refine sd ?_
  refine hk67 _ ?_
  refine evL_take 1 fun K68 hk68 => ?_
  refine sh0 ?_
  refine sd ?_
  refine hk68 _ ?_
  refine evL_take 1 fun K69 hk69 => ?_
  refine sh0 ?_
  refine Or.inl ⟨_, eqsh_act_refl _ _ _ _, ?_⟩
  refine hk69 _ ?_
  refine evL_take 4 fun K70 hk70 => ?_
  refine sh0 ?_
  refine sd ?_
  refine hk70 _ ?_
  refine evL_take 4 fun K71 hk71 => ?_
  refine sh0 ?_
  refine hk71 _ ?_
  refine evL_take 1 fun K72 hk72 => ?_
  refine sh0 ?_
  refine Or.inl ⟨_, eqsh_bool_refl _, ?_⟩
  refine hk72 _ ?_
  refine evL_take 2 fun K73 hk73 => ?_
  refine sh0 ?_
  refine hk73 _ ?_
  refine evL_take 1 fun K74 hk74 => ?_
  refine sh0 ?_
  refine Or.inl (Or.inl ⟨_, ka, ?_⟩)
  refine hk74 _ ?_
  refine sh0 ?_
  refine hk66 _ ?_
  refine hn65 (some ([6], none)) _ ?_
  exact sf0
end Go.Proofs.Ytcbdgnjdpfgobaa
