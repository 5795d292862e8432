/-
  MemoryNewest: the walk.
-/
import Derived.Test.YtfcjkchpldfamaaK4f
import Derived.Test.YtfcjkchpldfamaaScMemoryNewest
namespace Go.Proofs.Ytfcjkchpldfamaa
set_option linter.unusedSimpArgs false
set_option linter.unusedVariables false
open Go.RowKit Go.Maps

set_option maxHeartbeats 8000000 in
theorem ok_MemoryNewest (k : Int) (g : Nat) (ws : List WordV) (g2 : Nat) (ds : List DoV) (t : Int) (x : ActM) : Ok 6 [.agg (cCase k g ws g2 ds), sI t, .agg (eAct4 x)] (sB true) := by
  refine ok_of_tr Try.func6 tr_MemoryNewest rfl ?_
  obtain ⟨op, a, o, w⟩ := x
  have c1 := ok_l4begun k g ws g2 ds
  have hM := memOk_begun k ws ds
  have hI := memIn_begun k ws ds
  generalize begunM k ws ds = R at c1 hM hI
  obtain ⟨M, b⟩ := R
  simp only at c1 hM hI
  have hcase : (b = false) ∨ (b = true ∧ t < 1) ∨ (b = true ∧ ¬ t < 1 ∧ (M.views.length : Int) < t) ∨ (b = true ∧ ¬ t < 1 ∧ ¬ (M.views.length : Int) < t ∧ a < 0) ∨ (b = true ∧ ¬ t < 1 ∧ ¬ (M.views.length : Int) < t ∧ ¬ a < 0 ∧ (M.places.length : Int) ≤ a) ∨ (b = true ∧ ¬ t < 1 ∧ ¬ (M.views.length : Int) < t ∧ ¬ a < 0 ∧ ¬ (M.places.length : Int) ≤ a) := by
    cases b
    · exact .inl rfl
    · simp only [Bool.true_eq_false, false_or, true_and]; omega
  rcases hcase with hb | ⟨hb, h1⟩ | ⟨hb, h1, h2⟩ | ⟨hb, h1, h2, h3⟩ | ⟨hb, h1, h2, h3, h4⟩ | ⟨hb, h1, h2, h3, h4⟩
  · skip
    unfold evFn sc_MemoryNewest rv_MemoryNewest
    have F1 := @hb
    refine ev_seq_k fun K1 hn1 hr1 he1 => ?_
    refine ev_ops_k fun K2 hk2 => ?_
    refine sh1 F1 ?_
    refine hk2 _ ?_
    refine hn1 (some ([1, 3, 5, 43, 44, 47, 48, 49, 52, 53, 54, 57, 58, 59, 60, 123, 124, 127, 128, 129, 132, 133, 134, 137, 138, 139, 142, 143, 144, 145, 146, 147, 157, 158, 159, 160, 163, 164, 165, 166, 167, 168, 169, 170, 171, 179, 180, 181, 184, 185, 186, 187, 188, 189, 190, 191, 192, 193], none)) _ ?_
    refine ev_seq_k fun K3 hn3 hr3 he3 => ?_
    refine ev_seq_k fun K4 hn4 hr4 he4 => ?_
    refine ev_ops_k fun K5 hk5 => ?_
    refine evL_take 1 fun K6 hk6 => ?_
    refine sh1 F1 ?_
    refine Or.inl (Or.inl ⟨_, ok_l4awake, ?_⟩)
    refine hk6 _ ?_
    refine sh1 F1 ?_
    refine hk5 _ ?_
    refine hn4 (some ([1, 3, 5, 29, 43, 44, 47, 48, 49, 52, 53, 54, 57, 58, 59, 60, 123, 124, 127, 128, 129, 132, 133, 134, 137, 138, 139, 142, 143, 144, 145, 146, 147, 157, 158, 159, 160, 163, 164, 165, 166, 167, 168, 169, 170, 171, 179, 180, 181, 184, 185, 186, 187, 188, 189, 190, 191, 192, 193], none)) _ ?_
    refine ev_cond_k rfl (fun hx => absurd hx (by simp at hx)) (fun hc0 => ?_)
    clear hc0
    refine hn3 (some ([1, 3, 5, 43, 44, 47, 48, 49, 52, 53, 54, 57, 58, 59, 60, 123, 124, 127, 128, 129, 132, 133, 134, 137, 138, 139, 142, 143, 144, 145, 146, 147, 157, 158, 159, 160, 163, 164, 165, 166, 167, 168, 169, 170, 171, 179, 180, 181, 184, 185, 186, 187, 188, 189, 190, 191, 192, 193], none)) _ ?_
    refine ev_seq_k fun K7 hn7 hr7 he7 => ?_
    refine ev_ops_k fun K8 hk8 => ?_
    refine evL_take 1 fun K9 hk9 => ?_
    refine sh1 F1 ?_
    refine sd ?_
    refine hk9 _ ?_
    refine evL_take 1 fun K10 hk10 => ?_
    refine sh1 F1 ?_
    refine Or.inl (Or.inl ⟨_, c1, ?_⟩)
    refine hk10 _ ?_
    refine evL_take 5 fun K11 hk11 => ?_
    refine sh1 F1 ?_
    refine sd ?_
    refine hk11 _ ?_
    refine sh1 F1 ?_
    refine hk8 _ ?_
    refine hn7 (some ([1, 5, 7, 8, 43, 44, 47, 48, 49, 52, 53, 54, 57, 58, 59, 60, 123, 124, 127, 128, 129, 132, 133, 134, 137, 138, 139, 142, 143, 144, 145, 146, 147, 157, 158, 159, 160, 163, 164, 165, 166, 167, 168, 169, 170, 171, 179, 180, 181, 184, 185, 186, 187, 188, 189, 190, 191, 192, 193], none)) _ ?_
    refine ev_seq_k fun K12 hn12 hr12 he12 => ?_
    refine ev_ops_k fun K13 hk13 => ?_
    refine evL_take 1 fun K14 hk14 => ?_
    refine sh1 F1 ?_
    refine sd ?_
    refine hk14 _ ?_
    refine evL_take 1 fun K15 hk15 => ?_
    refine sh1 F1 ?_
    refine Or.inl (Or.inl ⟨_, ok_mSize M, ?_⟩)
    refine hk15 _ ?_
    refine sh1 F1 ?_
    refine hk13 _ ?_
    refine hn12 (some ([1, 5, 7, 8, 9, 10, 43, 44, 47, 48, 49, 52, 53, 54, 57, 58, 59, 60, 123, 124, 127, 128, 129, 132, 133, 134, 137, 138, 139, 142, 143, 144, 145, 146, 147, 157, 158, 159, 160, 163, 164, 165, 166, 167, 168, 169, 170, 171, 179, 180, 181, 184, 185, 186, 187, 188, 189, 190, 191, 192, 193], none)) _ ?_
    refine ev_seq_k fun K16 hn16 hr16 he16 => ?_
    refine ev_seq_k fun K17 hn17 hr17 he17 => ?_
    refine ev_ops_k fun K18 hk18 => ?_
    refine evL_take 5 fun K19 hk19 => ?_
    refine sh1 F1 ?_
    refine sd ?_
    refine hk19 _ ?_
    refine evL_take 5 fun K20 hk20 => ?_
    refine sh1 F1 ?_
    refine sd ?_
    refine hk20 _ ?_
    refine evL_take 4 fun K21 hk21 => ?_
    refine sh1 F1 ?_
    refine sd ?_
    refine hk21 _ ?_
    refine evL_take 1 fun K22 hk22 => ?_
    refine sh1 F1 ?_
    refine sd ?_
    refine hk22 _ ?_
    refine evL_take 4 fun K23 hk23 => ?_
    refine sh1 F1 ?_
    refine sd ?_
    refine hk23 _ ?_
    refine evL_take 2 fun K24 hk24 => ?_
    refine sh1 F1 ?_
    refine sd ?_
    refine hk24 _ ?_
    refine sh1 F1 ?_
    refine hk18 _ ?_
    refine hn17 (some ([1, 5, 7, 61, 123, 124, 127, 128, 129, 132, 133, 134, 137, 138, 139, 142, 143, 144, 145, 146, 147, 157, 158, 159, 160, 163, 164, 165, 166, 167, 168, 169, 170, 171, 179, 180, 181, 184, 185, 186, 187, 188, 189, 190, 191, 192, 193], none)) _ ?_
    refine ev_cond_k rfl (fun hc1 => ?_) (fun hx => absurd hx (by simp at hx))
    clear hc1
    refine ev_seq_k fun K25 hn25 hr25 he25 => ?_
    refine ev_ops_k fun K26 hk26 => ?_
    refine sh1 F1 ?_
    refine hk26 _ ?_
    refine hn25 (some ([6], none)) _ ?_
    refine hr16 _ ?_
    exact sf1 F1
  · skip
    unfold evFn sc_MemoryNewest rv_MemoryNewest
    have F1 := And.intro @hb @h1
    refine ev_seq_k fun K1 hn1 hr1 he1 => ?_
    refine ev_ops_k fun K2 hk2 => ?_
    refine sh1 F1 ?_
    refine hk2 _ ?_
    refine hn1 (some ([1, 3, 5, 43, 44, 47, 48, 49, 52, 53, 54, 57, 58, 59, 60, 123, 124, 127, 128, 129, 132, 133, 134, 137, 138, 139, 142, 143, 144, 145, 146, 147, 157, 158, 159, 160, 163, 164, 165, 166, 167, 168, 169, 170, 171, 179, 180, 181, 184, 185, 186, 187, 188, 189, 190, 191, 192, 193], none)) _ ?_
    refine ev_seq_k fun K3 hn3 hr3 he3 => ?_
    refine ev_seq_k fun K4 hn4 hr4 he4 => ?_
    refine ev_ops_k fun K5 hk5 => ?_
    refine evL_take 1 fun K6 hk6 => ?_
    refine sh1 F1 ?_
    refine Or.inl (Or.inl ⟨_, ok_l4awake, ?_⟩)
    refine hk6 _ ?_
    refine sh1 F1 ?_
    refine hk5 _ ?_
    refine hn4 (some ([1, 3, 5, 29, 43, 44, 47, 48, 49, 52, 53, 54, 57, 58, 59, 60, 123, 124, 127, 128, 129, 132, 133, 134, 137, 138, 139, 142, 143, 144, 145, 146, 147, 157, 158, 159, 160, 163, 164, 165, 166, 167, 168, 169, 170, 171, 179, 180, 181, 184, 185, 186, 187, 188, 189, 190, 191, 192, 193], none)) _ ?_
    refine ev_cond_k rfl (fun hx => absurd hx (by simp at hx)) (fun hc0 => ?_)
    clear hc0
    refine hn3 (some ([1, 3, 5, 43, 44, 47, 48, 49, 52, 53, 54, 57, 58, 59, 60, 123, 124, 127, 128, 129, 132, 133, 134, 137, 138, 139, 142, 143, 144, 145, 146, 147, 157, 158, 159, 160, 163, 164, 165, 166, 167, 168, 169, 170, 171, 179, 180, 181, 184, 185, 186, 187, 188, 189, 190, 191, 192, 193], none)) _ ?_
    refine ev_seq_k fun K7 hn7 hr7 he7 => ?_
    refine ev_ops_k fun K8 hk8 => ?_
    refine evL_take 1 fun K9 hk9 => ?_
    refine sh1 F1 ?_
    refine sd ?_
    refine hk9 _ ?_
    refine evL_take 1 fun K10 hk10 => ?_
    refine sh1 F1 ?_
    refine Or.inl (Or.inl ⟨_, c1, ?_⟩)
    refine hk10 _ ?_
    refine evL_take 5 fun K11 hk11 => ?_
    refine sh1 F1 ?_
    refine sd ?_
    refine hk11 _ ?_
    refine sh1 F1 ?_
    refine hk8 _ ?_
    refine hn7 (some ([1, 5, 7, 8, 43, 44, 47, 48, 49, 52, 53, 54, 57, 58, 59, 60, 123, 124, 127, 128, 129, 132, 133, 134, 137, 138, 139, 142, 143, 144, 145, 146, 147, 157, 158, 159, 160, 163, 164, 165, 166, 167, 168, 169, 170, 171, 179, 180, 181, 184, 185, 186, 187, 188, 189, 190, 191, 192, 193], none)) _ ?_
    refine ev_seq_k fun K12 hn12 hr12 he12 => ?_
    refine ev_ops_k fun K13 hk13 => ?_
    refine evL_take 1 fun K14 hk14 => ?_
    refine sh1 F1 ?_
    refine sd ?_
    refine hk14 _ ?_
    refine evL_take 1 fun K15 hk15 => ?_
    refine sh1 F1 ?_
    refine Or.inl (Or.inl ⟨_, ok_mSize M, ?_⟩)
    refine hk15 _ ?_
    refine sh1 F1 ?_
    refine hk13 _ ?_
    refine hn12 (some ([1, 5, 7, 8, 9, 10, 43, 44, 47, 48, 49, 52, 53, 54, 57, 58, 59, 60, 123, 124, 127, 128, 129, 132, 133, 134, 137, 138, 139, 142, 143, 144, 145, 146, 147, 157, 158, 159, 160, 163, 164, 165, 166, 167, 168, 169, 170, 171, 179, 180, 181, 184, 185, 186, 187, 188, 189, 190, 191, 192, 193], none)) _ ?_
    refine ev_seq_k fun K16 hn16 hr16 he16 => ?_
    refine ev_seq_k fun K17 hn17 hr17 he17 => ?_
    refine ev_ops_k fun K18 hk18 => ?_
    refine evL_take 5 fun K19 hk19 => ?_
    refine sh1 F1 ?_
    refine sd ?_
    refine hk19 _ ?_
    refine evL_take 5 fun K20 hk20 => ?_
    refine sh1 F1 ?_
    refine sd ?_
    refine hk20 _ ?_
    refine evL_take 4 fun K21 hk21 => ?_
    refine sh1 F1 ?_
    refine sd ?_
    refine hk21 _ ?_
    refine evL_take 1 fun K22 hk22 => ?_
    refine sh1 F1 ?_
    refine sd ?_
    refine hk22 _ ?_
    refine evL_take 4 fun K23 hk23 => ?_
    refine sh1 F1 ?_
    refine sd ?_
    refine hk23 _ ?_
    refine evL_take 2 fun K24 hk24 => ?_
    refine sh1 F1 ?_
    refine sd ?_
    refine hk24 _ ?_
    refine sh1 F1 ?_
    refine hk18 _ ?_
    refine hn17 (some ([1, 5, 7, 61, 123, 124, 127, 128, 129, 132, 133, 134, 137, 138, 139, 142, 143, 144, 145, 146, 147, 157, 158, 159, 160, 163, 164, 165, 166, 167, 168, 169, 170, 171, 179, 180, 181, 184, 185, 186, 187, 188, 189, 190, 191, 192, 193], none)) _ ?_
    refine ev_cond_k rfl (fun hc1 => ?_) (fun hx => absurd hx (by simp at hx))
    clear hc1
    refine ev_seq_k fun K25 hn25 hr25 he25 => ?_
    refine ev_ops_k fun K26 hk26 => ?_
    refine sh1 F1 ?_
    refine hk26 _ ?_
    refine hn25 (some ([6], none)) _ ?_
    refine hr16 _ ?_
    exact sf1 F1
  · skip
    unfold evFn sc_MemoryNewest rv_MemoryNewest
    have F1 := And.intro @hb (And.intro @h1 @h2)
    refine ev_seq_k fun K1 hn1 hr1 he1 => ?_
    refine ev_ops_k fun K2 hk2 => ?_
    refine sh1 F1 ?_
    refine hk2 _ ?_
    refine hn1 (some ([1, 3, 5, 43, 44, 47, 48, 49, 52, 53, 54, 57, 58, 59, 60, 123, 124, 127, 128, 129, 132, 133, 134, 137, 138, 139, 142, 143, 144, 145, 146, 147, 157, 158, 159, 160, 163, 164, 165, 166, 167, 168, 169, 170, 171, 179, 180, 181, 184, 185, 186, 187, 188, 189, 190, 191, 192, 193], none)) _ ?_
    refine ev_seq_k fun K3 hn3 hr3 he3 => ?_
    refine ev_seq_k fun K4 hn4 hr4 he4 => ?_
    refine ev_ops_k fun K5 hk5 => ?_
    refine evL_take 1 fun K6 hk6 => ?_
    refine sh1 F1 ?_
    refine Or.inl (Or.inl ⟨_, ok_l4awake, ?_⟩)
    refine hk6 _ ?_
    refine sh1 F1 ?_
    refine hk5 _ ?_
    refine hn4 (some ([1, 3, 5, 29, 43, 44, 47, 48, 49, 52, 53, 54, 57, 58, 59, 60, 123, 124, 127, 128, 129, 132, 133, 134, 137, 138, 139, 142, 143, 144, 145, 146, 147, 157, 158, 159, 160, 163, 164, 165, 166, 167, 168, 169, 170, 171, 179, 180, 181, 184, 185, 186, 187, 188, 189, 190, 191, 192, 193], none)) _ ?_
    refine ev_cond_k rfl (fun hx => absurd hx (by simp at hx)) (fun hc0 => ?_)
    clear hc0
    refine hn3 (some ([1, 3, 5, 43, 44, 47, 48, 49, 52, 53, 54, 57, 58, 59, 60, 123, 124, 127, 128, 129, 132, 133, 134, 137, 138, 139, 142, 143, 144, 145, 146, 147, 157, 158, 159, 160, 163, 164, 165, 166, 167, 168, 169, 170, 171, 179, 180, 181, 184, 185, 186, 187, 188, 189, 190, 191, 192, 193], none)) _ ?_
    refine ev_seq_k fun K7 hn7 hr7 he7 => ?_
    refine ev_ops_k fun K8 hk8 => ?_
    refine evL_take 1 fun K9 hk9 => ?_
    refine sh1 F1 ?_
    refine sd ?_
    refine hk9 _ ?_
    refine evL_take 1 fun K10 hk10 => ?_
    refine sh1 F1 ?_
    refine Or.inl (Or.inl ⟨_, c1, ?_⟩)
    refine hk10 _ ?_
    refine evL_take 5 fun K11 hk11 => ?_
    refine sh1 F1 ?_
    refine sd ?_
    refine hk11 _ ?_
    refine sh1 F1 ?_
    refine hk8 _ ?_
    refine hn7 (some ([1, 5, 7, 8, 43, 44, 47, 48, 49, 52, 53, 54, 57, 58, 59, 60, 123, 124, 127, 128, 129, 132, 133, 134, 137, 138, 139, 142, 143, 144, 145, 146, 147, 157, 158, 159, 160, 163, 164, 165, 166, 167, 168, 169, 170, 171, 179, 180, 181, 184, 185, 186, 187, 188, 189, 190, 191, 192, 193], none)) _ ?_
    refine ev_seq_k fun K12 hn12 hr12 he12 => ?_
    refine ev_ops_k fun K13 hk13 => ?_
    refine evL_take 1 fun K14 hk14 => ?_
    refine sh1 F1 ?_
    refine sd ?_
    refine hk14 _ ?_
    refine evL_take 1 fun K15 hk15 => ?_
    refine sh1 F1 ?_
    refine Or.inl (Or.inl ⟨_, ok_mSize M, ?_⟩)
    refine hk15 _ ?_
    refine sh1 F1 ?_
    refine hk13 _ ?_
    refine hn12 (some ([1, 5, 7, 8, 9, 10, 43, 44, 47, 48, 49, 52, 53, 54, 57, 58, 59, 60, 123, 124, 127, 128, 129, 132, 133, 134, 137, 138, 139, 142, 143, 144, 145, 146, 147, 157, 158, 159, 160, 163, 164, 165, 166, 167, 168, 169, 170, 171, 179, 180, 181, 184, 185, 186, 187, 188, 189, 190, 191, 192, 193], none)) _ ?_
    refine ev_seq_k fun K16 hn16 hr16 he16 => ?_
    refine ev_seq_k fun K17 hn17 hr17 he17 => ?_
    refine ev_ops_k fun K18 hk18 => ?_
    refine evL_take 5 fun K19 hk19 => ?_
    refine sh1 F1 ?_
    refine sd ?_
    refine hk19 _ ?_
    refine evL_take 5 fun K20 hk20 => ?_
    refine sh1 F1 ?_
    refine sd ?_
    refine hk20 _ ?_
    refine evL_take 4 fun K21 hk21 => ?_
    refine sh1 F1 ?_
    refine sd ?_
    refine hk21 _ ?_
    refine evL_take 1 fun K22 hk22 => ?_
    refine sh1 F1 ?_
    refine sd ?_
    refine hk22 _ ?_
    refine evL_take 4 fun K23 hk23 => ?_
    refine sh1 F1 ?_
    refine sd ?_
    refine hk23 _ ?_
    refine evL_take 2 fun K24 hk24 => ?_
    refine sh1 F1 ?_
    refine sd ?_
    refine hk24 _ ?_
    refine sh1 F1 ?_
    refine hk18 _ ?_
    refine hn17 (some ([1, 5, 7, 61, 123, 124, 127, 128, 129, 132, 133, 134, 137, 138, 139, 142, 143, 144, 145, 146, 147, 157, 158, 159, 160, 163, 164, 165, 166, 167, 168, 169, 170, 171, 179, 180, 181, 184, 185, 186, 187, 188, 189, 190, 191, 192, 193], none)) _ ?_
    refine ev_cond_k rfl (fun hc1 => ?_) (fun hx => absurd hx (by simp at hx))
    clear hc1
    refine ev_seq_k fun K25 hn25 hr25 he25 => ?_
    refine ev_ops_k fun K26 hk26 => ?_
    refine sh1 F1 ?_
    refine hk26 _ ?_
    refine hn25 (some ([6], none)) _ ?_
    refine hr16 _ ?_
    exact sf1 F1
  · skip
    unfold evFn sc_MemoryNewest rv_MemoryNewest
    have F1 := And.intro @hb (And.intro @h1 (And.intro @h2 @h3))
    refine ev_seq_k fun K1 hn1 hr1 he1 => ?_
    refine ev_ops_k fun K2 hk2 => ?_
    refine sh1 F1 ?_
    refine hk2 _ ?_
    refine hn1 (some ([1, 3, 5, 43, 44, 47, 48, 49, 52, 53, 54, 57, 58, 59, 60, 123, 124, 127, 128, 129, 132, 133, 134, 137, 138, 139, 142, 143, 144, 145, 146, 147, 157, 158, 159, 160, 163, 164, 165, 166, 167, 168, 169, 170, 171, 179, 180, 181, 184, 185, 186, 187, 188, 189, 190, 191, 192, 193], none)) _ ?_
    refine ev_seq_k fun K3 hn3 hr3 he3 => ?_
    refine ev_seq_k fun K4 hn4 hr4 he4 => ?_
    refine ev_ops_k fun K5 hk5 => ?_
    refine evL_take 1 fun K6 hk6 => ?_
    refine sh1 F1 ?_
    refine Or.inl (Or.inl ⟨_, ok_l4awake, ?_⟩)
    refine hk6 _ ?_
    refine sh1 F1 ?_
    refine hk5 _ ?_
    refine hn4 (some ([1, 3, 5, 29, 43, 44, 47, 48, 49, 52, 53, 54, 57, 58, 59, 60, 123, 124, 127, 128, 129, 132, 133, 134, 137, 138, 139, 142, 143, 144, 145, 146, 147, 157, 158, 159, 160, 163, 164, 165, 166, 167, 168, 169, 170, 171, 179, 180, 181, 184, 185, 186, 187, 188, 189, 190, 191, 192, 193], none)) _ ?_
    refine ev_cond_k rfl (fun hx => absurd hx (by simp at hx)) (fun hc0 => ?_)
    clear hc0
    refine hn3 (some ([1, 3, 5, 43, 44, 47, 48, 49, 52, 53, 54, 57, 58, 59, 60, 123, 124, 127, 128, 129, 132, 133, 134, 137, 138, 139, 142, 143, 144, 145, 146, 147, 157, 158, 159, 160, 163, 164, 165, 166, 167, 168, 169, 170, 171, 179, 180, 181, 184, 185, 186, 187, 188, 189, 190, 191, 192, 193], none)) _ ?_
    refine ev_seq_k fun K7 hn7 hr7 he7 => ?_
    refine ev_ops_k fun K8 hk8 => ?_
    refine evL_take 1 fun K9 hk9 => ?_
    refine sh1 F1 ?_
    refine sd ?_
    refine hk9 _ ?_
    refine evL_take 1 fun K10 hk10 => ?_
    refine sh1 F1 ?_
    refine Or.inl (Or.inl ⟨_, c1, ?_⟩)
    refine hk10 _ ?_
    refine evL_take 5 fun K11 hk11 => ?_
    refine sh1 F1 ?_
    refine sd ?_
    refine hk11 _ ?_
    refine sh1 F1 ?_
    refine hk8 _ ?_
    refine hn7 (some ([1, 5, 7, 8, 43, 44, 47, 48, 49, 52, 53, 54, 57, 58, 59, 60, 123, 124, 127, 128, 129, 132, 133, 134, 137, 138, 139, 142, 143, 144, 145, 146, 147, 157, 158, 159, 160, 163, 164, 165, 166, 167, 168, 169, 170, 171, 179, 180, 181, 184, 185, 186, 187, 188, 189, 190, 191, 192, 193], none)) _ ?_
    refine ev_seq_k fun K12 hn12 hr12 he12 => ?_
    refine ev_ops_k fun K13 hk13 => ?_
    refine evL_take 1 fun K14 hk14 => ?_
    refine sh1 F1 ?_
    refine sd ?_
    refine hk14 _ ?_
    refine evL_take 1 fun K15 hk15 => ?_
    refine sh1 F1 ?_
    refine Or.inl (Or.inl ⟨_, ok_mSize M, ?_⟩)
    refine hk15 _ ?_
    refine sh1 F1 ?_
    refine hk13 _ ?_
    refine hn12 (some ([1, 5, 7, 8, 9, 10, 43, 44, 47, 48, 49, 52, 53, 54, 57, 58, 59, 60, 123, 124, 127, 128, 129, 132, 133, 134, 137, 138, 139, 142, 143, 144, 145, 146, 147, 157, 158, 159, 160, 163, 164, 165, 166, 167, 168, 169, 170, 171, 179, 180, 181, 184, 185, 186, 187, 188, 189, 190, 191, 192, 193], none)) _ ?_
    refine ev_seq_k fun K16 hn16 hr16 he16 => ?_
    refine ev_seq_k fun K17 hn17 hr17 he17 => ?_
    refine ev_ops_k fun K18 hk18 => ?_
    refine evL_take 5 fun K19 hk19 => ?_
    refine sh1 F1 ?_
    refine sd ?_
    refine hk19 _ ?_
    refine evL_take 5 fun K20 hk20 => ?_
    refine sh1 F1 ?_
    refine sd ?_
    refine hk20 _ ?_
    refine evL_take 4 fun K21 hk21 => ?_
    refine sh1 F1 ?_
    refine sd ?_
    refine hk21 _ ?_
    refine evL_take 1 fun K22 hk22 => ?_
    refine sh1 F1 ?_
    refine sd ?_
    refine hk22 _ ?_
    refine evL_take 4 fun K23 hk23 => ?_
    refine sh1 F1 ?_
    refine sd ?_
    refine hk23 _ ?_
    refine evL_take 2 fun K24 hk24 => ?_
    refine sh1 F1 ?_
    refine sd ?_
    refine hk24 _ ?_
    refine sh1 F1 ?_
    refine hk18 _ ?_
    refine hn17 (some ([1, 5, 7, 61, 123, 124, 127, 128, 129, 132, 133, 134, 137, 138, 139, 142, 143, 144, 145, 146, 147, 157, 158, 159, 160, 163, 164, 165, 166, 167, 168, 169, 170, 171, 179, 180, 181, 184, 185, 186, 187, 188, 189, 190, 191, 192, 193], none)) _ ?_
    refine ev_cond_k rfl (fun hc1 => ?_) (fun hx => absurd hx (by simp at hx))
    clear hc1
    refine ev_seq_k fun K25 hn25 hr25 he25 => ?_
    refine ev_ops_k fun K26 hk26 => ?_
    refine sh1 F1 ?_
    refine hk26 _ ?_
    refine hn25 (some ([6], none)) _ ?_
    refine hr16 _ ?_
    exact sf1 F1
  · skip
    unfold evFn sc_MemoryNewest rv_MemoryNewest
    have F1 := And.intro @hb (And.intro @h1 (And.intro @h2 (And.intro @h3 @h4)))
    refine ev_seq_k fun K1 hn1 hr1 he1 => ?_
    refine ev_ops_k fun K2 hk2 => ?_
    refine sh1 F1 ?_
    refine hk2 _ ?_
    refine hn1 (some ([1, 3, 5, 43, 44, 47, 48, 49, 52, 53, 54, 57, 58, 59, 60, 123, 124, 127, 128, 129, 132, 133, 134, 137, 138, 139, 142, 143, 144, 145, 146, 147, 157, 158, 159, 160, 163, 164, 165, 166, 167, 168, 169, 170, 171, 179, 180, 181, 184, 185, 186, 187, 188, 189, 190, 191, 192, 193], none)) _ ?_
    refine ev_seq_k fun K3 hn3 hr3 he3 => ?_
    refine ev_seq_k fun K4 hn4 hr4 he4 => ?_
    refine ev_ops_k fun K5 hk5 => ?_
    refine evL_take 1 fun K6 hk6 => ?_
    refine sh1 F1 ?_
    refine Or.inl (Or.inl ⟨_, ok_l4awake, ?_⟩)
    refine hk6 _ ?_
    refine sh1 F1 ?_
    refine hk5 _ ?_
    refine hn4 (some ([1, 3, 5, 29, 43, 44, 47, 48, 49, 52, 53, 54, 57, 58, 59, 60, 123, 124, 127, 128, 129, 132, 133, 134, 137, 138, 139, 142, 143, 144, 145, 146, 147, 157, 158, 159, 160, 163, 164, 165, 166, 167, 168, 169, 170, 171, 179, 180, 181, 184, 185, 186, 187, 188, 189, 190, 191, 192, 193], none)) _ ?_
    refine ev_cond_k rfl (fun hx => absurd hx (by simp at hx)) (fun hc0 => ?_)
    clear hc0
    refine hn3 (some ([1, 3, 5, 43, 44, 47, 48, 49, 52, 53, 54, 57, 58, 59, 60, 123, 124, 127, 128, 129, 132, 133, 134, 137, 138, 139, 142, 143, 144, 145, 146, 147, 157, 158, 159, 160, 163, 164, 165, 166, 167, 168, 169, 170, 171, 179, 180, 181, 184, 185, 186, 187, 188, 189, 190, 191, 192, 193], none)) _ ?_
    refine ev_seq_k fun K7 hn7 hr7 he7 => ?_
    refine ev_ops_k fun K8 hk8 => ?_
    refine evL_take 1 fun K9 hk9 => ?_
    refine sh1 F1 ?_
    refine sd ?_
    refine hk9 _ ?_
    refine evL_take 1 fun K10 hk10 => ?_
    refine sh1 F1 ?_
    refine Or.inl (Or.inl ⟨_, c1, ?_⟩)
    refine hk10 _ ?_
    refine evL_take 5 fun K11 hk11 => ?_
    refine sh1 F1 ?_
    refine sd ?_
    refine hk11 _ ?_
    refine sh1 F1 ?_
    refine hk8 _ ?_
    refine hn7 (some ([1, 5, 7, 8, 43, 44, 47, 48, 49, 52, 53, 54, 57, 58, 59, 60, 123, 124, 127, 128, 129, 132, 133, 134, 137, 138, 139, 142, 143, 144, 145, 146, 147, 157, 158, 159, 160, 163, 164, 165, 166, 167, 168, 169, 170, 171, 179, 180, 181, 184, 185, 186, 187, 188, 189, 190, 191, 192, 193], none)) _ ?_
    refine ev_seq_k fun K12 hn12 hr12 he12 => ?_
    refine ev_ops_k fun K13 hk13 => ?_
    refine evL_take 1 fun K14 hk14 => ?_
    refine sh1 F1 ?_
    refine sd ?_
    refine hk14 _ ?_
    refine evL_take 1 fun K15 hk15 => ?_
    refine sh1 F1 ?_
    refine Or.inl (Or.inl ⟨_, ok_mSize M, ?_⟩)
    refine hk15 _ ?_
    refine sh1 F1 ?_
    refine hk13 _ ?_
    refine hn12 (some ([1, 5, 7, 8, 9, 10, 43, 44, 47, 48, 49, 52, 53, 54, 57, 58, 59, 60, 123, 124, 127, 128, 129, 132, 133, 134, 137, 138, 139, 142, 143, 144, 145, 146, 147, 157, 158, 159, 160, 163, 164, 165, 166, 167, 168, 169, 170, 171, 179, 180, 181, 184, 185, 186, 187, 188, 189, 190, 191, 192, 193], none)) _ ?_
    refine ev_seq_k fun K16 hn16 hr16 he16 => ?_
    refine ev_seq_k fun K17 hn17 hr17 he17 => ?_
    refine ev_ops_k fun K18 hk18 => ?_
    refine evL_take 5 fun K19 hk19 => ?_
    refine sh1 F1 ?_
    refine sd ?_
    refine hk19 _ ?_
    refine evL_take 5 fun K20 hk20 => ?_
    refine sh1 F1 ?_
    refine sd ?_
    refine hk20 _ ?_
    refine evL_take 4 fun K21 hk21 => ?_
    refine sh1 F1 ?_
    refine sd ?_
    refine hk21 _ ?_
    refine evL_take 1 fun K22 hk22 => ?_
    refine sh1 F1 ?_
    refine sd ?_
    refine hk22 _ ?_
    refine evL_take 4 fun K23 hk23 => ?_
    refine sh1 F1 ?_
    refine sd ?_
    refine hk23 _ ?_
    refine evL_take 2 fun K24 hk24 => ?_
    refine sh1 F1 ?_
    refine sd ?_
    refine hk24 _ ?_
    refine sh1 F1 ?_
    refine hk18 _ ?_
    refine hn17 (some ([1, 5, 7, 61, 123, 124, 127, 128, 129, 132, 133, 134, 137, 138, 139, 142, 143, 144, 145, 146, 147, 157, 158, 159, 160, 163, 164, 165, 166, 167, 168, 169, 170, 171, 179, 180, 181, 184, 185, 186, 187, 188, 189, 190, 191, 192, 193], none)) _ ?_
    refine ev_cond_k rfl (fun hc1 => ?_) (fun hx => absurd hx (by simp at hx))
    clear hc1
    refine ev_seq_k fun K25 hn25 hr25 he25 => ?_
    refine ev_ops_k fun K26 hk26 => ?_
    refine sh1 F1 ?_
    refine hk26 _ ?_
    refine hn25 (some ([6], none)) _ ?_
    refine hr16 _ ?_
    exact sf1 F1
  have ht : ThrB M t := ⟨by omega, by omega⟩
  have ha : PlcB M a := ⟨by omega, by omega⟩
  have dp : decide (PlcB M a) = true := decide_eq_true ha
  have hin := (plc_in hM ha).1
  have c3 := ok_mLast M a hM (by omega)
  have c4 := ok_mLook M t a hM (by omega)
  have c5 := ok_mSwap M t a o w hM (by omega)
  rw [look_word ht ha] at c4
  have hMn := memOk_look hM t a
  have c9 := ok_mLast (look1M M t a).1 a hMn (by omega)
  rw [lastW_look] at c9
  have hhl := hist_len hM a
  have hMs := memOk_swap hM t a o w
  have c7 := ok_mHistory (mswapM M t a o w).1 a
  have c8 := ok_mLast (mswapM M t a o w).1 a hMs (by omega)
  have c12 := ok_mSeen (mswapM M t a o w).1 t hMs.vl
  have c13 := fun f => ok_vAt f a hin
  by_cases ho : weq (lastWM M a) o = true
  · obtain ⟨s1, s2, s3⟩ := swap_yes hM hI ht ha ho (w := w)
    rw [s1] at c5
    have s4 : lastWM (mswapM M t a o w).1 a = w := by unfold lastWM; rw [s2, last_app]
    rw [s4] at c8
    have c13' := c13 (seenM (mswapM M t a o w).1 t)
    rw [s3] at c13'
    have hE : EqSh 29 (.agg (eWord (lastWM M a))) (.agg (eWord o)) true := by rw [← ho]; exact eqsh_word _ _
    have s5 : ((histM (mswapM M t a o w).1 a).length : Int) = (histM M a).length + 1 := by rw [s2]; simp
    have q1 : IntKind.i64.wrap (((histM M a).length : Int) + 1) = ((histM M a).length : Int) + 1 := by rw [IntKind.wrap_i64]; omega
    generalize decide (PlcB (mswapM M t a o w).1 a) = e1 at c7 c8
    generalize decide (PlcB (look1M M t a).1 a) = e2 at c9
    have c10 := ok_hLen (histM (mswapM M t a o w).1 a)
    rw [s5] at c10
    generalize histM (mswapM M t a o w).1 a = hs at c7 c10
    clear s2 s3 s4 s5 hMs hMn c13
    generalize seenM (mswapM M t a o w).1 t = sv at c12 c13'
    generalize (mswapM M t a o w).1 = S at c5 c7 c8 c12
    generalize (look1M M t a).1 = Q at c4 c9
    unfold evFn sc_MemoryNewest rv_MemoryNewest
    have F1 := And.intro @hb (And.intro @h1 (And.intro @h2 (And.intro @h3 (And.intro @h4 (And.intro @dp @q1)))))
    refine ev_seq_k fun K1 hn1 hr1 he1 => ?_
    refine ev_ops_k fun K2 hk2 => ?_
    refine sh1 F1 ?_
    refine hk2 _ ?_
    refine hn1 (some ([1, 3, 5, 43, 44, 47, 48, 49, 52, 53, 54, 57, 58, 59, 60, 123, 124, 127, 128, 129, 132, 133, 134, 137, 138, 139, 142, 143, 144, 145, 146, 147, 157, 158, 159, 160, 163, 164, 165, 166, 167, 168, 169, 170, 171, 179, 180, 181, 184, 185, 186, 187, 188, 189, 190, 191, 192, 193], none)) _ ?_
    refine ev_seq_k fun K3 hn3 hr3 he3 => ?_
    refine ev_seq_k fun K4 hn4 hr4 he4 => ?_
    refine ev_ops_k fun K5 hk5 => ?_
    refine evL_take 1 fun K6 hk6 => ?_
    refine sh1 F1 ?_
    refine Or.inl (Or.inl ⟨_, ok_l4awake, ?_⟩)
    refine hk6 _ ?_
    refine sh1 F1 ?_
    refine hk5 _ ?_
    refine hn4 (some ([1, 3, 5, 29, 43, 44, 47, 48, 49, 52, 53, 54, 57, 58, 59, 60, 123, 124, 127, 128, 129, 132, 133, 134, 137, 138, 139, 142, 143, 144, 145, 146, 147, 157, 158, 159, 160, 163, 164, 165, 166, 167, 168, 169, 170, 171, 179, 180, 181, 184, 185, 186, 187, 188, 189, 190, 191, 192, 193], none)) _ ?_
    refine ev_cond_k rfl (fun hx => absurd hx (by simp at hx)) (fun hc0 => ?_)
    clear hc0
    refine hn3 (some ([1, 3, 5, 43, 44, 47, 48, 49, 52, 53, 54, 57, 58, 59, 60, 123, 124, 127, 128, 129, 132, 133, 134, 137, 138, 139, 142, 143, 144, 145, 146, 147, 157, 158, 159, 160, 163, 164, 165, 166, 167, 168, 169, 170, 171, 179, 180, 181, 184, 185, 186, 187, 188, 189, 190, 191, 192, 193], none)) _ ?_
    refine ev_seq_k fun K7 hn7 hr7 he7 => ?_
    refine ev_ops_k fun K8 hk8 => ?_
    refine evL_take 1 fun K9 hk9 => ?_
    refine sh1 F1 ?_
    refine sd ?_
    refine hk9 _ ?_
    refine evL_take 1 fun K10 hk10 => ?_
    refine sh1 F1 ?_
    refine Or.inl (Or.inl ⟨_, c1, ?_⟩)
    refine hk10 _ ?_
    refine evL_take 5 fun K11 hk11 => ?_
    refine sh1 F1 ?_
    refine sd ?_
    refine hk11 _ ?_
    refine sh1 F1 ?_
    refine hk8 _ ?_
    refine hn7 (some ([1, 5, 7, 8, 43, 44, 47, 48, 49, 52, 53, 54, 57, 58, 59, 60, 123, 124, 127, 128, 129, 132, 133, 134, 137, 138, 139, 142, 143, 144, 145, 146, 147, 157, 158, 159, 160, 163, 164, 165, 166, 167, 168, 169, 170, 171, 179, 180, 181, 184, 185, 186, 187, 188, 189, 190, 191, 192, 193], none)) _ ?_
    refine ev_seq_k fun K12 hn12 hr12 he12 => ?_
    refine ev_ops_k fun K13 hk13 => ?_
    refine evL_take 1 fun K14 hk14 => ?_
    refine sh1 F1 ?_
    refine sd ?_
    refine hk14 _ ?_
    refine evL_take 1 fun K15 hk15 => ?_
    refine sh1 F1 ?_
    refine Or.inl (Or.inl ⟨_, ok_mSize M, ?_⟩)
    refine hk15 _ ?_
    refine sh1 F1 ?_
    refine hk13 _ ?_
    refine hn12 (some ([1, 5, 7, 8, 9, 10, 43, 44, 47, 48, 49, 52, 53, 54, 57, 58, 59, 60, 123, 124, 127, 128, 129, 132, 133, 134, 137, 138, 139, 142, 143, 144, 145, 146, 147, 157, 158, 159, 160, 163, 164, 165, 166, 167, 168, 169, 170, 171, 179, 180, 181, 184, 185, 186, 187, 188, 189, 190, 191, 192, 193], none)) _ ?_
    refine ev_seq_k fun K16 hn16 hr16 he16 => ?_
    refine ev_seq_k fun K17 hn17 hr17 he17 => ?_
    refine ev_ops_k fun K18 hk18 => ?_
    refine evL_take 5 fun K19 hk19 => ?_
    refine sh1 F1 ?_
    refine sd ?_
    refine hk19 _ ?_
    refine evL_take 5 fun K20 hk20 => ?_
    refine sh1 F1 ?_
    refine sd ?_
    refine hk20 _ ?_
    refine evL_take 4 fun K21 hk21 => ?_
    refine sh1 F1 ?_
    refine sd ?_
    refine hk21 _ ?_
    refine evL_take 1 fun K22 hk22 => ?_
    refine sh1 F1 ?_
    refine sd ?_
    refine hk22 _ ?_
    refine evL_take 4 fun K23 hk23 => ?_
    refine sh1 F1 ?_
    refine sd ?_
    refine hk23 _ ?_
    refine evL_take 2 fun K24 hk24 => ?_
    refine sh1 F1 ?_
    refine sd ?_
    refine hk24 _ ?_
    refine sh1 F1 ?_
    refine hk18 _ ?_
    refine hn17 (some ([1, 5, 7, 61, 123, 124, 127, 128, 129, 132, 133, 134, 137, 138, 139, 142, 143, 144, 145, 146, 147, 157, 158, 159, 160, 163, 164, 165, 166, 167, 168, 169, 170, 171, 179, 180, 181, 184, 185, 186, 187, 188, 189, 190, 191, 192, 193], none)) _ ?_
    refine ev_cond_k rfl (fun hx => absurd hx (by simp at hx)) (fun hc1 => ?_)
    clear hc1
    refine hn16 (some ([1, 5, 7, 123, 124, 127, 128, 129, 132, 133, 134, 137, 138, 139, 142, 143, 144, 145, 146, 147, 157, 158, 159, 160, 163, 164, 165, 166, 167, 168, 169, 170, 171, 179, 180, 181, 184, 185, 186, 187, 188, 189, 190, 191, 192, 193], none)) _ ?_
    refine ev_seq_k fun K25 hn25 hr25 he25 => ?_
    refine ev_ops_k fun K26 hk26 => ?_
    refine evL_take 1 fun K27 hk27 => ?_
    refine sh1 F1 ?_
    refine sd ?_
    refine hk27 _ ?_
    refine evL_take 2 fun K28 hk28 => ?_
    refine sh1 F1 ?_
    refine sd ?_
    refine hk28 _ ?_
    refine evL_take 1 fun K29 hk29 => ?_
    refine sh1 F1 ?_
    refine Or.inl (Or.inl ⟨_, c3, ?_⟩)
    refine hk29 _ ?_
    refine evL_take 5 fun K30 hk30 => ?_
    refine sh1 F1 ?_
    refine sd ?_
    refine hk30 _ ?_
    refine sh1 F1 ?_
    refine hk26 _ ?_
    refine hn25 (some ([1, 5, 7, 11, 123, 124, 127, 128, 129, 132, 133, 134, 137, 138, 139, 142, 143, 144, 145, 146, 147, 157, 158, 159, 160, 163, 164, 165, 166, 167, 168, 169, 170, 171, 179, 180, 181, 184, 185, 186, 187, 188, 189, 190, 191, 192, 193], none)) _ ?_
    refine ev_seq_k fun K31 hn31 hr31 he31 => ?_
    refine ev_ops_k fun K32 hk32 => ?_
    refine evL_take 1 fun K33 hk33 => ?_
    refine sh1 F1 ?_
    refine sd ?_
    refine hk33 _ ?_
    refine evL_take 3 fun K34 hk34 => ?_
    refine sh1 F1 ?_
    refine sd ?_
    refine hk34 _ ?_
    refine evL_take 1 fun K35 hk35 => ?_
    refine sh1 F1 ?_
    refine Or.inl (Or.inl ⟨_, c4, ?_⟩)
    refine hk35 _ ?_
    refine evL_take 7 fun K36 hk36 => ?_
    refine sh1 F1 ?_
    refine sd ?_
    refine hk36 _ ?_
    refine evL_take 1 fun K37 hk37 => ?_
    refine sh1 F1 ?_
    refine sd ?_
    refine hk37 _ ?_
    refine sh1 F1 ?_
    refine hk32 _ ?_
    refine hn31 (some ([1, 5, 7, 11, 13, 14, 15, 123, 124, 127, 128, 129, 132, 133, 134, 137, 138, 139, 142, 143, 144, 145, 146, 147, 157, 158, 159, 160, 163, 164, 165, 166, 167, 168, 169, 170, 171, 179, 180, 181, 184, 185, 186, 187, 188, 189, 190, 191, 192, 193], none)) _ ?_
    refine ev_seq_k fun K38 hn38 hr38 he38 => ?_
    refine ev_ops_k fun K39 hk39 => ?_
    refine evL_take 1 fun K40 hk40 => ?_
    refine sh1 F1 ?_
    refine sd ?_
    refine hk40 _ ?_
    refine evL_take 3 fun K41 hk41 => ?_
    refine sh1 F1 ?_
    refine sd ?_
    refine hk41 _ ?_
    refine evL_take 2 fun K42 hk42 => ?_
    refine sh1 F1 ?_
    refine sd ?_
    refine hk42 _ ?_
    refine evL_take 2 fun K43 hk43 => ?_
    refine sh1 F1 ?_
    refine sd ?_
    refine hk43 _ ?_
    refine evL_take 1 fun K44 hk44 => ?_
    refine sh1 F1 ?_
    refine Or.inl (Or.inl ⟨_, c5, ?_⟩)
    refine hk44 _ ?_
    refine evL_take 8 fun K45 hk45 => ?_
    refine sh1 F1 ?_
    refine sd ?_
    refine hk45 _ ?_
    refine evL_take 1 fun K46 hk46 => ?_
    refine sh1 F1 ?_
    refine sd ?_
    refine hk46 _ ?_
    refine sh1 F1 ?_
    refine hk39 _ ?_
    refine hn38 (some ([1, 5, 7, 11, 13, 14, 15, 16, 17, 18, 19, 123, 124, 127, 128, 129, 132, 133, 134, 137, 138, 139, 142, 143, 144, 145, 146, 147, 157, 158, 159, 160, 163, 164, 165, 166, 167, 168, 169, 170, 171, 179, 180, 181, 184, 185, 186, 187, 188, 189, 190, 191, 192, 193], none)) _ ?_
    refine ev_seq_k fun K47 hn47 hr47 he47 => ?_
    refine ev_ops_k fun K48 hk48 => ?_
    refine evL_take 1 fun K49 hk49 => ?_
    refine sh1 F1 ?_
    refine sd ?_
    refine hk49 _ ?_
    refine evL_take 2 fun K50 hk50 => ?_
    refine sh1 F1 ?_
    refine sd ?_
    refine hk50 _ ?_
    refine evL_take 1 fun K51 hk51 => ?_
    refine sh1 F1 ?_
    refine Or.inl (Or.inl ⟨_, ok_mHistory M a, ?_⟩)
    refine hk51 _ ?_
    refine evL_take 5 fun K52 hk52 => ?_
    refine sh1 F1 ?_
    refine sd ?_
    refine hk52 _ ?_
    refine sh1 F1 ?_
    refine hk48 _ ?_
    refine hn47 (some ([1, 5, 11, 13, 14, 15, 16, 17, 18, 19, 20, 123, 124, 127, 128, 129, 132, 133, 134, 137, 138, 139, 142, 143, 144, 145, 146, 147, 157, 158, 159, 160, 163, 164, 165, 166, 167, 168, 169, 170, 171, 179, 180, 181, 184, 185, 186, 187, 188, 189, 190, 191, 192, 193], none)) _ ?_
    refine ev_seq_k fun K53 hn53 hr53 he53 => ?_
    refine ev_ops_k fun K54 hk54 => ?_
    refine evL_take 1 fun K55 hk55 => ?_
    refine sh1 F1 ?_
    refine sd ?_
    refine hk55 _ ?_
    refine evL_take 2 fun K56 hk56 => ?_
    refine sh1 F1 ?_
    refine sd ?_
    refine hk56 _ ?_
    refine evL_take 1 fun K57 hk57 => ?_
    refine sh1 F1 ?_
    refine Or.inl (Or.inl ⟨_, c7, ?_⟩)
    refine hk57 _ ?_
    refine evL_take 5 fun K58 hk58 => ?_
    refine sh1 F1 ?_
    refine sd ?_
    refine hk58 _ ?_
    refine sh1 F1 ?_
    refine hk54 _ ?_
    refine hn53 (some ([1, 5, 11, 13, 14, 15, 16, 17, 18, 19, 20, 22, 123, 124, 127, 128, 129, 132, 133, 134, 137, 138, 139, 142, 143, 144, 145, 146, 147, 157, 158, 159, 160, 163, 164, 165, 166, 167, 168, 169, 170, 171, 179, 180, 181, 184, 185, 186, 187, 188, 189, 190, 191, 192, 193], none)) _ ?_
    refine ev_seq_k fun K59 hn59 hr59 he59 => ?_
    refine ev_ops_k fun K60 hk60 => ?_
    refine evL_take 1 fun K61 hk61 => ?_
    refine sh1 F1 ?_
    refine sd ?_
    refine hk61 _ ?_
    refine evL_take 2 fun K62 hk62 => ?_
    refine sh1 F1 ?_
    refine sd ?_
    refine hk62 _ ?_
    refine evL_take 1 fun K63 hk63 => ?_
    refine sh1 F1 ?_
    refine Or.inl (Or.inl ⟨_, c8, ?_⟩)
    refine hk63 _ ?_
    refine evL_take 5 fun K64 hk64 => ?_
    refine sh1 F1 ?_
    refine sd ?_
    refine hk64 _ ?_
    refine sh1 F1 ?_
    refine hk60 _ ?_
    refine hn59 (some ([1, 5, 11, 13, 14, 15, 16, 17, 18, 19, 20, 22, 24, 123, 124, 127, 128, 129, 132, 133, 134, 137, 138, 139, 142, 143, 144, 145, 146, 147, 157, 158, 159, 160, 163, 164, 165, 166, 167, 168, 169, 170, 171, 179, 180, 181, 184, 185, 186, 187, 188, 189, 190, 191, 192, 193], none)) _ ?_
    refine ev_seq_k fun K65 hn65 hr65 he65 => ?_
    refine ev_ops_k fun K66 hk66 => ?_
    refine evL_take 1 fun K67 hk67 => ?_
    refine sh1 F1 ?_
    refine sd ?_
    refine hk67 _ ?_
    refine evL_take 2 fun K68 hk68 => ?_
    refine sh1 F1 ?_
    refine sd ?_
    refine hk68 _ ?_
    refine evL_take 1 fun K69 hk69 => ?_
    refine sh1 F1 ?_
    refine Or.inl (Or.inl ⟨_, c9, ?_⟩)
    refine hk69 _ ?_
    refine evL_take 5 fun K70 hk70 => ?_
    refine sh1 F1 ?_
    refine sd ?_
    refine hk70 _ ?_
    refine sh1 F1 ?_
    refine hk66 _ ?_
    refine hn65 (some ([1, 5, 11, 14, 15, 16, 17, 18, 19, 20, 22, 24, 26, 123, 124, 127, 128, 129, 132, 133, 134, 137, 138, 139, 142, 143, 144, 145, 146, 147, 157, 158, 159, 160, 163, 164, 165, 166, 167, 168, 169, 170, 171, 179, 180, 181, 184, 185, 186, 187, 188, 189, 190, 191, 192, 193], none)) _ ?_
    refine ev_seq_k fun K71 hn71 hr71 he71 => ?_
    refine ev_seq_k fun K72 hn72 hr72 he72 => ?_
    refine ev_ops_k fun K73 hk73 => ?_
    refine evL_take 2 fun K74 hk74 => ?_
    refine sh1 F1 ?_
    refine sd ?_
    refine hk74 _ ?_
    refine evL_take 3 fun K75 hk75 => ?_
    refine sh1 F1 ?_
    refine sd ?_
    refine hk75 _ ?_
    refine evL_take 3 fun K76 hk76 => ?_
    refine sh1 F1 ?_
    refine sd ?_
    refine hk76 _ ?_
    refine evL_take 1 fun K77 hk77 => ?_
    refine sh1 F1 ?_
    refine sd ?_
    refine hk77 _ ?_
    refine evL_take 1 fun K78 hk78 => ?_
    refine sh1 F1 ?_
    refine Or.inl ⟨_, eqsh_word_refl _, ?_⟩
    refine hk78 _ ?_
    refine evL_take 3 fun K79 hk79 => ?_
    refine sh1 F1 ?_
    refine sd ?_
    refine hk79 _ ?_
    refine evL_take 1 fun K80 hk80 => ?_
    refine sh1 F1 ?_
    refine sd ?_
    refine hk80 _ ?_
    refine evL_take 1 fun K81 hk81 => ?_
    refine sh1 F1 ?_
    refine Or.inl ⟨_, eqsh_word_refl _, ?_⟩
    refine hk81 _ ?_
    refine evL_take 3 fun K82 hk82 => ?_
    refine sh1 F1 ?_
    refine sd ?_
    refine hk82 _ ?_
    refine evL_take 1 fun K83 hk83 => ?_
    refine sh1 F1 ?_
    refine sd ?_
    refine hk83 _ ?_
    refine evL_take 1 fun K84 hk84 => ?_
    refine sh1 F1 ?_
    refine Or.inl ⟨_, eqsh_word_refl _, ?_⟩
    refine hk84 _ ?_
    refine evL_take 4 fun K85 hk85 => ?_
    refine sh1 F1 ?_
    refine sd ?_
    refine hk85 _ ?_
    refine evL_take 2 fun K86 hk86 => ?_
    refine sh1 F1 ?_
    refine sd ?_
    refine hk86 _ ?_
    refine evL_take 1 fun K87 hk87 => ?_
    refine sh1 F1 ?_
    refine Or.inl ⟨_, hE, ?_⟩
    refine hk87 _ ?_
    refine evL_take 1 fun K88 hk88 => ?_
    refine sh1 F1 ?_
    refine Or.inl ⟨_, eqsh_bool true true, ?_⟩
    refine hk88 _ ?_
    refine sh1 F1 ?_
    refine hk73 _ ?_
    refine hn72 (some ([1, 5, 11, 16, 18, 20, 22, 24, 148, 157, 158, 159, 160, 163, 164, 165, 166, 167, 168, 169, 170, 171, 179, 180, 181, 184, 185, 186, 187, 188, 189, 190, 191, 192, 193], none)) _ ?_
    refine ev_cond_k rfl (fun hx => absurd hx (by simp at hx)) (fun hc2 => ?_)
    clear hc2
    refine hn71 (some ([1, 5, 11, 16, 18, 20, 22, 24, 157, 158, 159, 160, 163, 164, 165, 166, 167, 168, 169, 170, 171, 179, 180, 181, 184, 185, 186, 187, 188, 189, 190, 191, 192, 193], none)) _ ?_
    refine ev_seq_k fun K89 hn89 hr89 he89 => ?_
    refine ev_seq_k fun K90 hn90 hr90 he90 => ?_
    refine ev_ops_k fun K91 hk91 => ?_
    refine sh1 F1 ?_
    refine hk91 _ ?_
    refine hn90 (some ([1, 5, 11, 16, 20, 22, 24, 149, 157, 158, 159, 160, 163, 164, 165, 166, 167, 168, 169, 170, 171, 179, 180, 181, 184, 185, 186, 187, 188, 189, 190, 191, 192, 193], none)) _ ?_
    refine ev_cond_k rfl (fun hc3 => ?_) (fun hx => absurd hx (by simp at hx))
    clear hc3
    refine ev_seq_k fun K92 hn92 hr92 he92 => ?_
    refine ev_drw_k [] (n := 20) fun K93 hk93 => ?_
    refine sq0 ?_
    refine evF_take 1 fun K95 hk95 => ?_
    refine sh1 F1 ?_
    refine sd ?_
    refine hk95 _ _ _ ?_
    refine evF_take 1 fun K96 hk96 => ?_
    refine sh1 F1 ?_
    refine ⟨_, c10, ?_⟩
    refine hk96 _ _ _ ?_
    refine evF_take 1 fun K97 hk97 => ?_
    refine sh1 F1 ?_
    refine sd ?_
    refine hk97 _ _ _ ?_
    refine evF_take 1 fun K98 hk98 => ?_
    refine sh1 F1 ?_
    refine ⟨_, ok_hLen _, ?_⟩
    refine hk98 _ _ _ ?_
    refine evF_take 1 fun K99 hk99 => ?_
    refine sh1 F1 ?_
    refine sd ?_
    refine hk99 _ _ _ ?_
    refine evF_take 1 fun K100 hk100 => ?_
    refine sh1 F1 ?_
    refine sd ?_
    refine hk100 _ _ _ ?_
    refine evF_take 2 fun K101 hk101 => ?_
    refine sh1 F1 ?_
    refine sd ?_
    refine hk101 _ _ _ ?_
    refine evF_take 2 fun K102 hk102 => ?_
    refine sh1 F1 ?_
    refine sd ?_
    refine hk102 _ _ _ ?_
    refine evF_take 1 fun K103 hk103 => ?_
    refine sh1 F1 ?_
    refine ⟨_, eqsh_word_refl _, ?_⟩
    refine hk103 _ _ _ ?_
    refine evF_take 3 fun K104 hk104 => ?_
    refine sh1 F1 ?_
    refine sd ?_
    refine hk104 _ _ _ ?_
    refine evF_take 1 fun K105 hk105 => ?_
    refine sh1 F1 ?_
    refine hk105 _ _ _ ?_
    refine evF_take 1 fun K106 hk106 => ?_
    refine sh1 F1 ?_
    refine ⟨_, c12, ?_⟩
    refine hk106 _ _ _ ?_
    refine evF_take 2 fun K107 hk107 => ?_
    refine sh1 F1 ?_
    refine sd ?_
    refine hk107 _ _ _ ?_
    refine evF_take 1 fun K108 hk108 => ?_
    refine sh1 F1 ?_
    refine ⟨_, c13', ?_⟩
    refine hk108 _ _ _ ?_
    refine sh1 F1 ?_
    refine sd ?_
    refine hk93 _ ?_
    refine sr0 ?_
    refine evL_take 1 fun K109 hk109 => ?_
    refine sh1 F1 ?_
    refine Or.inl (Or.inl ⟨_, ok_hLen _, ?_⟩)
    refine hk109 _ ?_
    refine evL_take 1 fun K110 hk110 => ?_
    refine sh1 F1 ?_
    refine sd ?_
    refine hk110 _ ?_
    refine sh1 F1 ?_
    refine hn92 (some ([6], none)) _ ?_
    refine hr89 _ ?_
    exact sf1 F1
  · have s0 := swap_no ht ha ho (w := w)
    rw [s0] at c5 c7 c8 c12
    rw [lastW_look] at c8
    simp only [look_hist] at c7
    have ho' : weq (lastWM M a) o = false := by simpa using ho
    have hE : EqSh 29 (.agg (eWord (lastWM M a))) (.agg (eWord o)) false := by rw [← ho']; exact eqsh_word _ _
    have c13' := c13 (seenM (look1M M t a).1 t)
    rw [look_seen hM hI ht ha] at c13'
    have q1 : IntKind.i64.wrap (((histM M a).length : Int) - 1) = ((histM M a).length : Int) - 1 := by rw [IntKind.wrap_i64]; omega
    generalize decide (PlcB (look1M M t a).1 a) = e2 at c7 c8 c9
    clear hMs hMn c13 s0
    generalize seenM (look1M M t a).1 t = sv at c12 c13'
    generalize (look1M M t a).1 = Q at c4 c5 c7 c8 c9 c12
    unfold evFn sc_MemoryNewest rv_MemoryNewest
    have F1 := And.intro @hb (And.intro @h1 (And.intro @h2 (And.intro @h3 (And.intro @h4 (And.intro @dp @q1)))))
    refine ev_seq_k fun K1 hn1 hr1 he1 => ?_
    refine ev_ops_k fun K2 hk2 => ?_
    refine sh1 F1 ?_
    refine hk2 _ ?_
    refine hn1 (some ([1, 3, 5, 43, 44, 47, 48, 49, 52, 53, 54, 57, 58, 59, 60, 123, 124, 127, 128, 129, 132, 133, 134, 137, 138, 139, 142, 143, 144, 145, 146, 147, 157, 158, 159, 160, 163, 164, 165, 166, 167, 168, 169, 170, 171, 179, 180, 181, 184, 185, 186, 187, 188, 189, 190, 191, 192, 193], none)) _ ?_
    refine ev_seq_k fun K3 hn3 hr3 he3 => ?_
    refine ev_seq_k fun K4 hn4 hr4 he4 => ?_
    refine ev_ops_k fun K5 hk5 => ?_
    refine evL_take 1 fun K6 hk6 => ?_
    refine sh1 F1 ?_
    refine Or.inl (Or.inl ⟨_, ok_l4awake, ?_⟩)
    refine hk6 _ ?_
    refine sh1 F1 ?_
    refine hk5 _ ?_
    refine hn4 (some ([1, 3, 5, 29, 43, 44, 47, 48, 49, 52, 53, 54, 57, 58, 59, 60, 123, 124, 127, 128, 129, 132, 133, 134, 137, 138, 139, 142, 143, 144, 145, 146, 147, 157, 158, 159, 160, 163, 164, 165, 166, 167, 168, 169, 170, 171, 179, 180, 181, 184, 185, 186, 187, 188, 189, 190, 191, 192, 193], none)) _ ?_
    refine ev_cond_k rfl (fun hx => absurd hx (by simp at hx)) (fun hc0 => ?_)
    clear hc0
    refine hn3 (some ([1, 3, 5, 43, 44, 47, 48, 49, 52, 53, 54, 57, 58, 59, 60, 123, 124, 127, 128, 129, 132, 133, 134, 137, 138, 139, 142, 143, 144, 145, 146, 147, 157, 158, 159, 160, 163, 164, 165, 166, 167, 168, 169, 170, 171, 179, 180, 181, 184, 185, 186, 187, 188, 189, 190, 191, 192, 193], none)) _ ?_
    refine ev_seq_k fun K7 hn7 hr7 he7 => ?_
    refine ev_ops_k fun K8 hk8 => ?_
    refine evL_take 1 fun K9 hk9 => ?_
    refine sh1 F1 ?_
    refine sd ?_
    refine hk9 _ ?_
    refine evL_take 1 fun K10 hk10 => ?_
    refine sh1 F1 ?_
    refine Or.inl (Or.inl ⟨_, c1, ?_⟩)
    refine hk10 _ ?_
    refine evL_take 5 fun K11 hk11 => ?_
    refine sh1 F1 ?_
    refine sd ?_
    refine hk11 _ ?_
    refine sh1 F1 ?_
    refine hk8 _ ?_
    refine hn7 (some ([1, 5, 7, 8, 43, 44, 47, 48, 49, 52, 53, 54, 57, 58, 59, 60, 123, 124, 127, 128, 129, 132, 133, 134, 137, 138, 139, 142, 143, 144, 145, 146, 147, 157, 158, 159, 160, 163, 164, 165, 166, 167, 168, 169, 170, 171, 179, 180, 181, 184, 185, 186, 187, 188, 189, 190, 191, 192, 193], none)) _ ?_
    refine ev_seq_k fun K12 hn12 hr12 he12 => ?_
    refine ev_ops_k fun K13 hk13 => ?_
    refine evL_take 1 fun K14 hk14 => ?_
    refine sh1 F1 ?_
    refine sd ?_
    refine hk14 _ ?_
    refine evL_take 1 fun K15 hk15 => ?_
    refine sh1 F1 ?_
    refine Or.inl (Or.inl ⟨_, ok_mSize M, ?_⟩)
    refine hk15 _ ?_
    refine sh1 F1 ?_
    refine hk13 _ ?_
    refine hn12 (some ([1, 5, 7, 8, 9, 10, 43, 44, 47, 48, 49, 52, 53, 54, 57, 58, 59, 60, 123, 124, 127, 128, 129, 132, 133, 134, 137, 138, 139, 142, 143, 144, 145, 146, 147, 157, 158, 159, 160, 163, 164, 165, 166, 167, 168, 169, 170, 171, 179, 180, 181, 184, 185, 186, 187, 188, 189, 190, 191, 192, 193], none)) _ ?_
    refine ev_seq_k fun K16 hn16 hr16 he16 => ?_
    refine ev_seq_k fun K17 hn17 hr17 he17 => ?_
    refine ev_ops_k fun K18 hk18 => ?_
    refine evL_take 5 fun K19 hk19 => ?_
    refine sh1 F1 ?_
    refine sd ?_
    refine hk19 _ ?_
    refine evL_take 5 fun K20 hk20 => ?_
    refine sh1 F1 ?_
    refine sd ?_
    refine hk20 _ ?_
    refine evL_take 4 fun K21 hk21 => ?_
    refine sh1 F1 ?_
    refine sd ?_
    refine hk21 _ ?_
    refine evL_take 1 fun K22 hk22 => ?_
    refine sh1 F1 ?_
    refine sd ?_
    refine hk22 _ ?_
    refine evL_take 4 fun K23 hk23 => ?_
    refine sh1 F1 ?_
    refine sd ?_
    refine hk23 _ ?_
    refine evL_take 2 fun K24 hk24 => ?_
    refine sh1 F1 ?_
    refine sd ?_
    refine hk24 _ ?_
    refine sh1 F1 ?_
    refine hk18 _ ?_
    refine hn17 (some ([1, 5, 7, 61, 123, 124, 127, 128, 129, 132, 133, 134, 137, 138, 139, 142, 143, 144, 145, 146, 147, 157, 158, 159, 160, 163, 164, 165, 166, 167, 168, 169, 170, 171, 179, 180, 181, 184, 185, 186, 187, 188, 189, 190, 191, 192, 193], none)) _ ?_
    refine ev_cond_k rfl (fun hx => absurd hx (by simp at hx)) (fun hc1 => ?_)
    clear hc1
    refine hn16 (some ([1, 5, 7, 123, 124, 127, 128, 129, 132, 133, 134, 137, 138, 139, 142, 143, 144, 145, 146, 147, 157, 158, 159, 160, 163, 164, 165, 166, 167, 168, 169, 170, 171, 179, 180, 181, 184, 185, 186, 187, 188, 189, 190, 191, 192, 193], none)) _ ?_
    refine ev_seq_k fun K25 hn25 hr25 he25 => ?_
    refine ev_ops_k fun K26 hk26 => ?_
    refine evL_take 1 fun K27 hk27 => ?_
    refine sh1 F1 ?_
    refine sd ?_
    refine hk27 _ ?_
    refine evL_take 2 fun K28 hk28 => ?_
    refine sh1 F1 ?_
    refine sd ?_
    refine hk28 _ ?_
    refine evL_take 1 fun K29 hk29 => ?_
    refine sh1 F1 ?_
    refine Or.inl (Or.inl ⟨_, c3, ?_⟩)
    refine hk29 _ ?_
    refine evL_take 5 fun K30 hk30 => ?_
    refine sh1 F1 ?_
    refine sd ?_
    refine hk30 _ ?_
    refine sh1 F1 ?_
    refine hk26 _ ?_
    refine hn25 (some ([1, 5, 7, 11, 123, 124, 127, 128, 129, 132, 133, 134, 137, 138, 139, 142, 143, 144, 145, 146, 147, 157, 158, 159, 160, 163, 164, 165, 166, 167, 168, 169, 170, 171, 179, 180, 181, 184, 185, 186, 187, 188, 189, 190, 191, 192, 193], none)) _ ?_
    refine ev_seq_k fun K31 hn31 hr31 he31 => ?_
    refine ev_ops_k fun K32 hk32 => ?_
    refine evL_take 1 fun K33 hk33 => ?_
    refine sh1 F1 ?_
    refine sd ?_
    refine hk33 _ ?_
    refine evL_take 3 fun K34 hk34 => ?_
    refine sh1 F1 ?_
    refine sd ?_
    refine hk34 _ ?_
    refine evL_take 1 fun K35 hk35 => ?_
    refine sh1 F1 ?_
    refine Or.inl (Or.inl ⟨_, c4, ?_⟩)
    refine hk35 _ ?_
    refine evL_take 7 fun K36 hk36 => ?_
    refine sh1 F1 ?_
    refine sd ?_
    refine hk36 _ ?_
    refine evL_take 1 fun K37 hk37 => ?_
    refine sh1 F1 ?_
    refine sd ?_
    refine hk37 _ ?_
    refine sh1 F1 ?_
    refine hk32 _ ?_
    refine hn31 (some ([1, 5, 7, 11, 13, 14, 15, 123, 124, 127, 128, 129, 132, 133, 134, 137, 138, 139, 142, 143, 144, 145, 146, 147, 157, 158, 159, 160, 163, 164, 165, 166, 167, 168, 169, 170, 171, 179, 180, 181, 184, 185, 186, 187, 188, 189, 190, 191, 192, 193], none)) _ ?_
    refine ev_seq_k fun K38 hn38 hr38 he38 => ?_
    refine ev_ops_k fun K39 hk39 => ?_
    refine evL_take 1 fun K40 hk40 => ?_
    refine sh1 F1 ?_
    refine sd ?_
    refine hk40 _ ?_
    refine evL_take 3 fun K41 hk41 => ?_
    refine sh1 F1 ?_
    refine sd ?_
    refine hk41 _ ?_
    refine evL_take 2 fun K42 hk42 => ?_
    refine sh1 F1 ?_
    refine sd ?_
    refine hk42 _ ?_
    refine evL_take 2 fun K43 hk43 => ?_
    refine sh1 F1 ?_
    refine sd ?_
    refine hk43 _ ?_
    refine evL_take 1 fun K44 hk44 => ?_
    refine sh1 F1 ?_
    refine Or.inl (Or.inl ⟨_, c5, ?_⟩)
    refine hk44 _ ?_
    refine evL_take 8 fun K45 hk45 => ?_
    refine sh1 F1 ?_
    refine sd ?_
    refine hk45 _ ?_
    refine evL_take 1 fun K46 hk46 => ?_
    refine sh1 F1 ?_
    refine sd ?_
    refine hk46 _ ?_
    refine sh1 F1 ?_
    refine hk39 _ ?_
    refine hn38 (some ([1, 5, 7, 11, 13, 14, 15, 16, 17, 18, 19, 123, 124, 127, 128, 129, 132, 133, 134, 137, 138, 139, 142, 143, 144, 145, 146, 147, 157, 158, 159, 160, 163, 164, 165, 166, 167, 168, 169, 170, 171, 179, 180, 181, 184, 185, 186, 187, 188, 189, 190, 191, 192, 193], none)) _ ?_
    refine ev_seq_k fun K47 hn47 hr47 he47 => ?_
    refine ev_ops_k fun K48 hk48 => ?_
    refine evL_take 1 fun K49 hk49 => ?_
    refine sh1 F1 ?_
    refine sd ?_
    refine hk49 _ ?_
    refine evL_take 2 fun K50 hk50 => ?_
    refine sh1 F1 ?_
    refine sd ?_
    refine hk50 _ ?_
    refine evL_take 1 fun K51 hk51 => ?_
    refine sh1 F1 ?_
    refine Or.inl (Or.inl ⟨_, ok_mHistory M a, ?_⟩)
    refine hk51 _ ?_
    refine evL_take 5 fun K52 hk52 => ?_
    refine sh1 F1 ?_
    refine sd ?_
    refine hk52 _ ?_
    refine sh1 F1 ?_
    refine hk48 _ ?_
    refine hn47 (some ([1, 5, 11, 13, 14, 15, 16, 17, 18, 19, 20, 123, 124, 127, 128, 129, 132, 133, 134, 137, 138, 139, 142, 143, 144, 145, 146, 147, 157, 158, 159, 160, 163, 164, 165, 166, 167, 168, 169, 170, 171, 179, 180, 181, 184, 185, 186, 187, 188, 189, 190, 191, 192, 193], none)) _ ?_
    refine ev_seq_k fun K53 hn53 hr53 he53 => ?_
    refine ev_ops_k fun K54 hk54 => ?_
    refine evL_take 1 fun K55 hk55 => ?_
    refine sh1 F1 ?_
    refine sd ?_
    refine hk55 _ ?_
    refine evL_take 2 fun K56 hk56 => ?_
    refine sh1 F1 ?_
    refine sd ?_
    refine hk56 _ ?_
    refine evL_take 1 fun K57 hk57 => ?_
    refine sh1 F1 ?_
    refine Or.inl (Or.inl ⟨_, c7, ?_⟩)
    refine hk57 _ ?_
    refine evL_take 5 fun K58 hk58 => ?_
    refine sh1 F1 ?_
    refine sd ?_
    refine hk58 _ ?_
    refine sh1 F1 ?_
    refine hk54 _ ?_
    refine hn53 (some ([1, 5, 11, 13, 14, 15, 16, 17, 18, 19, 20, 22, 123, 124, 127, 128, 129, 132, 133, 134, 137, 138, 139, 142, 143, 144, 145, 146, 147, 157, 158, 159, 160, 163, 164, 165, 166, 167, 168, 169, 170, 171, 179, 180, 181, 184, 185, 186, 187, 188, 189, 190, 191, 192, 193], none)) _ ?_
    refine ev_seq_k fun K59 hn59 hr59 he59 => ?_
    refine ev_ops_k fun K60 hk60 => ?_
    refine evL_take 1 fun K61 hk61 => ?_
    refine sh1 F1 ?_
    refine sd ?_
    refine hk61 _ ?_
    refine evL_take 2 fun K62 hk62 => ?_
    refine sh1 F1 ?_
    refine sd ?_
    refine hk62 _ ?_
    refine evL_take 1 fun K63 hk63 => ?_
    refine sh1 F1 ?_
    refine Or.inl (Or.inl ⟨_, c8, ?_⟩)
    refine hk63 _ ?_
    refine evL_take 5 fun K64 hk64 => ?_
    refine sh1 F1 ?_
    refine sd ?_
    refine hk64 _ ?_
    refine sh1 F1 ?_
    refine hk60 _ ?_
    refine hn59 (some ([1, 5, 11, 13, 14, 15, 16, 17, 18, 19, 20, 22, 24, 123, 124, 127, 128, 129, 132, 133, 134, 137, 138, 139, 142, 143, 144, 145, 146, 147, 157, 158, 159, 160, 163, 164, 165, 166, 167, 168, 169, 170, 171, 179, 180, 181, 184, 185, 186, 187, 188, 189, 190, 191, 192, 193], none)) _ ?_
    refine ev_seq_k fun K65 hn65 hr65 he65 => ?_
    refine ev_ops_k fun K66 hk66 => ?_
    refine evL_take 1 fun K67 hk67 => ?_
    refine sh1 F1 ?_
    refine sd ?_
    refine hk67 _ ?_
    refine evL_take 2 fun K68 hk68 => ?_
    refine sh1 F1 ?_
    refine sd ?_
    refine hk68 _ ?_
    refine evL_take 1 fun K69 hk69 => ?_
    refine sh1 F1 ?_
    refine Or.inl (Or.inl ⟨_, c9, ?_⟩)
    refine hk69 _ ?_
    refine evL_take 5 fun K70 hk70 => ?_
    refine sh1 F1 ?_
    refine sd ?_
    refine hk70 _ ?_
    refine sh1 F1 ?_
    refine hk66 _ ?_
    refine hn65 (some ([1, 5, 11, 14, 15, 16, 17, 18, 19, 20, 22, 24, 26, 123, 124, 127, 128, 129, 132, 133, 134, 137, 138, 139, 142, 143, 144, 145, 146, 147, 157, 158, 159, 160, 163, 164, 165, 166, 167, 168, 169, 170, 171, 179, 180, 181, 184, 185, 186, 187, 188, 189, 190, 191, 192, 193], none)) _ ?_
    refine ev_seq_k fun K71 hn71 hr71 he71 => ?_
    refine ev_seq_k fun K72 hn72 hr72 he72 => ?_
    refine ev_ops_k fun K73 hk73 => ?_
    refine evL_take 2 fun K74 hk74 => ?_
    refine sh1 F1 ?_
    refine sd ?_
    refine hk74 _ ?_
    refine evL_take 3 fun K75 hk75 => ?_
    refine sh1 F1 ?_
    refine sd ?_
    refine hk75 _ ?_
    refine evL_take 3 fun K76 hk76 => ?_
    refine sh1 F1 ?_
    refine sd ?_
    refine hk76 _ ?_
    refine evL_take 1 fun K77 hk77 => ?_
    refine sh1 F1 ?_
    refine sd ?_
    refine hk77 _ ?_
    refine evL_take 1 fun K78 hk78 => ?_
    refine sh1 F1 ?_
    refine Or.inl ⟨_, eqsh_word_refl _, ?_⟩
    refine hk78 _ ?_
    refine evL_take 3 fun K79 hk79 => ?_
    refine sh1 F1 ?_
    refine sd ?_
    refine hk79 _ ?_
    refine evL_take 1 fun K80 hk80 => ?_
    refine sh1 F1 ?_
    refine sd ?_
    refine hk80 _ ?_
    refine evL_take 1 fun K81 hk81 => ?_
    refine sh1 F1 ?_
    refine Or.inl ⟨_, eqsh_word_refl _, ?_⟩
    refine hk81 _ ?_
    refine evL_take 3 fun K82 hk82 => ?_
    refine sh1 F1 ?_
    refine sd ?_
    refine hk82 _ ?_
    refine evL_take 1 fun K83 hk83 => ?_
    refine sh1 F1 ?_
    refine sd ?_
    refine hk83 _ ?_
    refine evL_take 1 fun K84 hk84 => ?_
    refine sh1 F1 ?_
    refine Or.inl ⟨_, eqsh_word_refl _, ?_⟩
    refine hk84 _ ?_
    refine evL_take 4 fun K85 hk85 => ?_
    refine sh1 F1 ?_
    refine sd ?_
    refine hk85 _ ?_
    refine evL_take 2 fun K86 hk86 => ?_
    refine sh1 F1 ?_
    refine sd ?_
    refine hk86 _ ?_
    refine evL_take 1 fun K87 hk87 => ?_
    refine sh1 F1 ?_
    refine Or.inl ⟨_, hE, ?_⟩
    refine hk87 _ ?_
    refine evL_take 1 fun K88 hk88 => ?_
    refine sh1 F1 ?_
    refine Or.inl ⟨_, eqsh_bool false false, ?_⟩
    refine hk88 _ ?_
    refine sh1 F1 ?_
    refine hk73 _ ?_
    refine hn72 (some ([1, 5, 11, 16, 18, 20, 22, 24, 148, 157, 158, 159, 160, 163, 164, 165, 166, 167, 168, 169, 170, 171, 179, 180, 181, 184, 185, 186, 187, 188, 189, 190, 191, 192, 193], none)) _ ?_
    refine ev_cond_k rfl (fun hx => absurd hx (by simp at hx)) (fun hc2 => ?_)
    clear hc2
    refine hn71 (some ([1, 5, 11, 16, 18, 20, 22, 24, 157, 158, 159, 160, 163, 164, 165, 166, 167, 168, 169, 170, 171, 179, 180, 181, 184, 185, 186, 187, 188, 189, 190, 191, 192, 193], none)) _ ?_
    refine ev_seq_k fun K89 hn89 hr89 he89 => ?_
    refine ev_seq_k fun K90 hn90 hr90 he90 => ?_
    refine ev_ops_k fun K91 hk91 => ?_
    refine sh1 F1 ?_
    refine hk91 _ ?_
    refine hn90 (some ([1, 5, 11, 16, 20, 22, 24, 149, 157, 158, 159, 160, 163, 164, 165, 166, 167, 168, 169, 170, 171, 179, 180, 181, 184, 185, 186, 187, 188, 189, 190, 191, 192, 193], none)) _ ?_
    refine ev_cond_k rfl (fun hx => absurd hx (by simp at hx)) (fun hc3 => ?_)
    clear hc3
    refine hn89 (some ([1, 5, 11, 16, 20, 22, 24, 179, 180, 181, 184, 185, 186, 187, 188, 189, 190, 191, 192, 193], none)) _ ?_
    refine ev_seq_k fun K92 hn92 hr92 he92 => ?_
    refine ev_drw_k [] (n := 18) fun K93 hk93 => ?_
    refine sq0 ?_
    refine evF_take 1 fun K95 hk95 => ?_
    refine sh1 F1 ?_
    refine sd ?_
    refine hk95 _ _ _ ?_
    refine evF_take 1 fun K96 hk96 => ?_
    refine sh1 F1 ?_
    refine ⟨_, ok_hLen _, ?_⟩
    refine hk96 _ _ _ ?_
    refine evF_take 1 fun K97 hk97 => ?_
    refine sh1 F1 ?_
    refine sd ?_
    refine hk97 _ _ _ ?_
    refine evF_take 1 fun K98 hk98 => ?_
    refine sh1 F1 ?_
    refine ⟨_, ok_hLen _, ?_⟩
    refine hk98 _ _ _ ?_
    refine evF_take 1 fun K99 hk99 => ?_
    refine sh1 F1 ?_
    refine sd ?_
    refine hk99 _ _ _ ?_
    refine evF_take 2 fun K100 hk100 => ?_
    refine sh1 F1 ?_
    refine sd ?_
    refine hk100 _ _ _ ?_
    refine evF_take 1 fun K101 hk101 => ?_
    refine sh1 F1 ?_
    refine sd ?_
    refine hk101 _ _ _ ?_
    refine evF_take 1 fun K102 hk102 => ?_
    refine sh1 F1 ?_
    refine ⟨_, eqsh_word_refl _, ?_⟩
    refine hk102 _ _ _ ?_
    refine evF_take 3 fun K103 hk103 => ?_
    refine sh1 F1 ?_
    refine sd ?_
    refine hk103 _ _ _ ?_
    refine evF_take 1 fun K104 hk104 => ?_
    refine sh1 F1 ?_
    refine hk104 _ _ _ ?_
    refine evF_take 1 fun K105 hk105 => ?_
    refine sh1 F1 ?_
    refine ⟨_, c12, ?_⟩
    refine hk105 _ _ _ ?_
    refine evF_take 2 fun K106 hk106 => ?_
    refine sh1 F1 ?_
    refine sd ?_
    refine hk106 _ _ _ ?_
    refine evF_take 1 fun K107 hk107 => ?_
    refine sh1 F1 ?_
    refine ⟨_, c13', ?_⟩
    refine hk107 _ _ _ ?_
    refine sh1 F1 ?_
    refine sd ?_
    refine hk93 _ ?_
    refine sr0 ?_
    refine evL_take 1 fun K108 hk108 => ?_
    refine sh1 F1 ?_
    refine Or.inl (Or.inl ⟨_, ok_hLen _, ?_⟩)
    refine hk108 _ ?_
    refine evL_take 1 fun K109 hk109 => ?_
    refine sh1 F1 ?_
    refine sd ?_
    refine hk109 _ ?_
    refine evL_take 1 fun K110 hk110 => ?_
    refine sh1 F1 ?_
    refine sd ?_
    refine hk110 _ ?_
    refine sh1 F1 ?_
    refine hn92 (some ([6], none)) _ ?_
    exact sf1 F1
end Go.Proofs.Ytfcjkchpldfamaa
