/-
  MemoryRefuses: the walk, case 4.
-/
import Derived.Test.YtfcjkchpldfamaaK4l
import Derived.Test.YtfcjkchpldfamaaScMemoryRefuses
namespace Go.Proofs.Ytfcjkchpldfamaa
set_option linter.unusedSimpArgs false
set_option linter.unusedVariables false
open Go.RowKit Go.Maps

set_option maxHeartbeats 8000000 in
theorem refuses4 (k : Int) (g : Nat) (ws : List WordV) (g2 : Nat) (ds : List DoV) (d : DoV) (th : Int) {M : MemM} (c1 : Ok 16 [.agg (cCase k g ws g2 ds)] (.tup [eMem M, sB true])) (hM : MemOk M 41) (hw1 : ws.length ≠ 0) (hw2 : ¬ 4096 < ws.length)
    (t1 : ¬ d.thread < 1) (t2 : ¬ (M.views.length : Int) < d.thread) (t3 : ¬ d.act.place < 0) (t4 : (M.places.length : Int) ≤ d.act.place) : Ok 8 [.agg (cCase k g ws g2 ds), .agg (eDo d), sI th] (sB true) := by
  refine ok_of_tr Try.func8 tr_MemoryRefuses rfl ?_
  have c3 := ok_l4do M d hM (by omega)
  by_cases h1 : d.act.op < 1
  · rw [do_none (.inl h1)] at c3
    unfold evFn sc_MemoryRefuses rv_MemoryRefuses
    have F1 := And.intro @h1 (And.intro @t1 (And.intro @t2 (And.intro @t3 @t4)))
    refine ev_seq_k fun K1 hn1 hr1 he1 => ?_
    refine ev_ops_k fun K2 hk2 => ?_
    refine sh1 F1 ?_
    refine hk2 _ ?_
    refine hn1 (some ([2, 3, 4, 50, 51, 52, 53, 56, 57, 58, 59, 62, 63, 64, 65, 66, 73, 74, 75, 76, 85, 86, 87, 88, 89, 90, 91, 92, 93, 110, 111, 112, 113, 114, 115, 116, 117, 118, 119, 120, 121, 139, 140, 144, 145], none)) _ ?_
    refine ev_seq_k fun K3 hn3 hr3 he3 => ?_
    refine ev_seq_k fun K4 hn4 hr4 he4 => ?_
    refine ev_ops_k fun K5 hk5 => ?_
    refine evL_take 1 fun K6 hk6 => ?_
    refine sh1 F1 ?_
    refine Or.inl (Or.inl ⟨_, ok_l4awake, ?_⟩)
    refine hk6 _ ?_
    refine sh1 F1 ?_
    refine hk5 _ ?_
    refine hn4 (some ([2, 3, 4, 25, 50, 51, 52, 53, 56, 57, 58, 59, 62, 63, 64, 65, 66, 73, 74, 75, 76, 85, 86, 87, 88, 89, 90, 91, 92, 93, 110, 111, 112, 113, 114, 115, 116, 117, 118, 119, 120, 121, 139, 140, 144, 145], none)) _ ?_
    refine ev_cond_k rfl (fun hx => absurd hx (by simp at hx)) (fun hc0 => ?_)
    clear hc0
    refine hn3 (some ([2, 3, 4, 50, 51, 52, 53, 56, 57, 58, 59, 62, 63, 64, 65, 66, 73, 74, 75, 76, 85, 86, 87, 88, 89, 90, 91, 92, 93, 110, 111, 112, 113, 114, 115, 116, 117, 118, 119, 120, 121, 139, 140, 144, 145], none)) _ ?_
    refine ev_seq_k fun K7 hn7 hr7 he7 => ?_
    refine ev_ops_k fun K8 hk8 => ?_
    refine evL_take 1 fun K9 hk9 => ?_
    refine sh1 F1 ?_
    refine sd ?_
    refine hk9 _ ?_
    refine evL_take 1 fun K10 hk10 => ?_
    refine sh1 F1 ?_
    refine Or.inl (Or.inl ⟨_, c1, ?_⟩)
    refine hk10 _ ?_
    refine evL_take 5 fun K11 hk11 => ?_
    refine sh1 F1 ?_
    refine sd ?_
    refine hk11 _ ?_
    refine sh1 F1 ?_
    refine hk8 _ ?_
    refine hn7 (some ([2, 3, 4, 7, 8, 50, 51, 52, 53, 56, 57, 58, 59, 62, 63, 64, 65, 66, 73, 74, 75, 76, 85, 86, 87, 88, 89, 90, 91, 92, 93, 110, 111, 112, 113, 114, 115, 116, 117, 118, 119, 120, 121, 139, 140, 144, 145], none)) _ ?_
    refine ev_seq_k fun K12 hn12 hr12 he12 => ?_
    refine ev_seq_k fun K13 hn13 hr13 he13 => ?_
    refine ev_ops_k fun K14 hk14 => ?_
    refine sh1 F1 ?_
    refine hk14 _ ?_
    refine hn13 (some ([2, 3, 4, 7, 32, 50, 51, 52, 53, 56, 57, 58, 59, 62, 63, 64, 65, 66, 73, 74, 75, 76, 85, 86, 87, 88, 89, 90, 91, 92, 93, 110, 111, 112, 113, 114, 115, 116, 117, 118, 119, 120, 121, 139, 140, 144, 145], none)) _ ?_
    refine ev_cond_k rfl (fun hx => absurd hx (by simp at hx)) (fun hc1 => ?_)
    clear hc1
    refine hn12 (some ([2, 3, 4, 7, 50, 51, 52, 53, 56, 57, 58, 59, 62, 63, 64, 65, 66, 73, 74, 75, 76, 85, 86, 87, 88, 89, 90, 91, 92, 93, 110, 111, 112, 113, 114, 115, 116, 117, 118, 119, 120, 121, 139, 140, 144, 145], none)) _ ?_
    refine ev_seq_k fun K15 hn15 hr15 he15 => ?_
    refine ev_ops_k fun K16 hk16 => ?_
    refine evL_take 1 fun K17 hk17 => ?_
    refine sh1 F1 ?_
    refine sd ?_
    refine hk17 _ ?_
    refine evL_take 1 fun K18 hk18 => ?_
    refine sh1 F1 ?_
    refine Or.inl (Or.inl ⟨_, ok_mSize M, ?_⟩)
    refine hk18 _ ?_
    refine sh1 F1 ?_
    refine hk16 _ ?_
    refine hn15 (some ([2, 3, 4, 7, 9, 10, 50, 51, 52, 53, 56, 57, 58, 59, 62, 63, 64, 65, 66, 73, 74, 75, 76, 85, 86, 87, 88, 89, 90, 91, 92, 93, 110, 111, 112, 113, 114, 115, 116, 117, 118, 119, 120, 121, 139, 140, 144, 145], none)) _ ?_
    refine ev_seq_k fun K19 hn19 hr19 he19 => ?_
    refine ev_ops_k fun K20 hk20 => ?_
    refine evL_take 1 fun K21 hk21 => ?_
    refine sh1 F1 ?_
    refine sd ?_
    refine hk21 _ ?_
    refine evL_take 1 fun K22 hk22 => ?_
    refine sh1 F1 ?_
    refine sd ?_
    refine hk22 _ ?_
    refine evL_take 1 fun K23 hk23 => ?_
    refine sh1 F1 ?_
    refine Or.inl (Or.inl ⟨_, c3, ?_⟩)
    refine hk23 _ ?_
    refine evL_take 8 fun K24 hk24 => ?_
    refine sh1 F1 ?_
    refine sd ?_
    refine hk24 _ ?_
    refine evL_take 1 fun K25 hk25 => ?_
    refine sh1 F1 ?_
    refine sd ?_
    refine hk25 _ ?_
    refine sh1 F1 ?_
    refine hk20 _ ?_
    refine hn19 (some ([2, 3, 4, 7, 9, 10, 11, 12, 13, 14, 50, 51, 52, 53, 56, 57, 58, 59, 62, 63, 64, 65, 66, 73, 74, 75, 76, 85, 86, 87, 88, 89, 90, 91, 92, 93, 110, 111, 112, 113, 114, 115, 116, 117, 118, 119, 120, 121, 139, 140, 144, 145], none)) _ ?_
    refine ev_seq_k fun K26 hn26 hr26 he26 => ?_
    refine ev_ops_k fun K27 hk27 => ?_
    refine evL_take 2 fun K28 hk28 => ?_
    refine sh1 F1 ?_
    refine sd ?_
    refine hk28 _ ?_
    refine evL_take 1 fun K29 hk29 => ?_
    refine sh1 F1 ?_
    refine sd ?_
    refine hk29 _ ?_
    refine evL_take 3 fun K30 hk30 => ?_
    refine sh1 F1 ?_
    refine sd ?_
    refine hk30 _ ?_
    refine evL_take 2 fun K31 hk31 => ?_
    refine sh1 F1 ?_
    refine sd ?_
    refine hk31 _ ?_
    refine evL_take 5 fun K32 hk32 => ?_
    refine sh1 F1 ?_
    refine sd ?_
    refine hk32 _ ?_
    refine evL_take 1 fun K33 hk33 => ?_
    refine sh1 F1 ?_
    refine sd ?_
    refine hk33 _ ?_
    refine evL_take 5 fun K34 hk34 => ?_
    refine sh1 F1 ?_
    refine sd ?_
    refine hk34 _ ?_
    refine evL_take 2 fun K35 hk35 => ?_
    refine sh1 F1 ?_
    refine sd ?_
    refine hk35 _ ?_
    refine sh1 F1 ?_
    refine hk27 _ ?_
    refine hn26 (some ([2, 3, 4, 7, 9, 11, 12, 13, 14, 15, 73, 74, 75, 76, 85, 86, 87, 88, 89, 90, 91, 92, 93, 110, 111, 112, 113, 114, 115, 116, 117, 118, 119, 120, 121, 139, 140, 144, 145], none)) _ ?_
    refine ev_seq_k fun K36 hn36 hr36 he36 => ?_
    refine ev_seq_k fun K37 hn37 hr37 he37 => ?_
    refine ev_ops_k fun K38 hk38 => ?_
    refine evL_take 3 fun K39 hk39 => ?_
    refine sh1 F1 ?_
    refine sd ?_
    refine hk39 _ ?_
    refine evL_take 1 fun K40 hk40 => ?_
    refine sh1 F1 ?_
    refine sd ?_
    refine hk40 _ ?_
    refine evL_take 4 fun K41 hk41 => ?_
    refine sh1 F1 ?_
    refine sd ?_
    refine hk41 _ ?_
    refine evL_take 1 fun K42 hk42 => ?_
    refine sh1 F1 ?_
    refine sd ?_
    refine hk42 _ ?_
    refine sh1 F1 ?_
    refine hk38 _ ?_
    refine hn37 (some ([2, 3, 4, 7, 9, 11, 12, 13, 14, 15, 77, 85, 86, 87, 88, 89, 90, 91, 92, 93, 110, 111, 112, 113, 114, 115, 116, 117, 118, 119, 120, 121, 139, 140, 144, 145], none)) _ ?_
    refine ev_cond_k rfl (fun hc2 => ?_) (fun hx => absurd hx (by simp at hx))
    clear hc2
    refine ev_seq_k fun K43 hn43 hr43 he43 => ?_
    refine ev_ops_k fun K44 hk44 => ?_
    refine evL_take 2 fun K45 hk45 => ?_
    refine sh1 F1 ?_
    refine sd ?_
    refine hk45 _ ?_
    refine sh1 F1 ?_
    refine hk44 _ ?_
    refine hn43 (some ([6], none)) _ ?_
    refine hr36 _ ?_
    exact sf1 F1
  by_cases h6 : 6 < d.act.op
  · rw [do_none (.inr h6)] at c3
    unfold evFn sc_MemoryRefuses rv_MemoryRefuses
    have F1 := And.intro @h1 (And.intro @h6 (And.intro @t1 (And.intro @t2 (And.intro @t3 @t4))))
    refine ev_seq_k fun K1 hn1 hr1 he1 => ?_
    refine ev_ops_k fun K2 hk2 => ?_
    refine sh1 F1 ?_
    refine hk2 _ ?_
    refine hn1 (some ([2, 3, 4, 50, 51, 52, 53, 56, 57, 58, 59, 62, 63, 64, 65, 66, 73, 74, 75, 76, 85, 86, 87, 88, 89, 90, 91, 92, 93, 110, 111, 112, 113, 114, 115, 116, 117, 118, 119, 120, 121, 139, 140, 144, 145], none)) _ ?_
    refine ev_seq_k fun K3 hn3 hr3 he3 => ?_
    refine ev_seq_k fun K4 hn4 hr4 he4 => ?_
    refine ev_ops_k fun K5 hk5 => ?_
    refine evL_take 1 fun K6 hk6 => ?_
    refine sh1 F1 ?_
    refine Or.inl (Or.inl ⟨_, ok_l4awake, ?_⟩)
    refine hk6 _ ?_
    refine sh1 F1 ?_
    refine hk5 _ ?_
    refine hn4 (some ([2, 3, 4, 25, 50, 51, 52, 53, 56, 57, 58, 59, 62, 63, 64, 65, 66, 73, 74, 75, 76, 85, 86, 87, 88, 89, 90, 91, 92, 93, 110, 111, 112, 113, 114, 115, 116, 117, 118, 119, 120, 121, 139, 140, 144, 145], none)) _ ?_
    refine ev_cond_k rfl (fun hx => absurd hx (by simp at hx)) (fun hc0 => ?_)
    clear hc0
    refine hn3 (some ([2, 3, 4, 50, 51, 52, 53, 56, 57, 58, 59, 62, 63, 64, 65, 66, 73, 74, 75, 76, 85, 86, 87, 88, 89, 90, 91, 92, 93, 110, 111, 112, 113, 114, 115, 116, 117, 118, 119, 120, 121, 139, 140, 144, 145], none)) _ ?_
    refine ev_seq_k fun K7 hn7 hr7 he7 => ?_
    refine ev_ops_k fun K8 hk8 => ?_
    refine evL_take 1 fun K9 hk9 => ?_
    refine sh1 F1 ?_
    refine sd ?_
    refine hk9 _ ?_
    refine evL_take 1 fun K10 hk10 => ?_
    refine sh1 F1 ?_
    refine Or.inl (Or.inl ⟨_, c1, ?_⟩)
    refine hk10 _ ?_
    refine evL_take 5 fun K11 hk11 => ?_
    refine sh1 F1 ?_
    refine sd ?_
    refine hk11 _ ?_
    refine sh1 F1 ?_
    refine hk8 _ ?_
    refine hn7 (some ([2, 3, 4, 7, 8, 50, 51, 52, 53, 56, 57, 58, 59, 62, 63, 64, 65, 66, 73, 74, 75, 76, 85, 86, 87, 88, 89, 90, 91, 92, 93, 110, 111, 112, 113, 114, 115, 116, 117, 118, 119, 120, 121, 139, 140, 144, 145], none)) _ ?_
    refine ev_seq_k fun K12 hn12 hr12 he12 => ?_
    refine ev_seq_k fun K13 hn13 hr13 he13 => ?_
    refine ev_ops_k fun K14 hk14 => ?_
    refine sh1 F1 ?_
    refine hk14 _ ?_
    refine hn13 (some ([2, 3, 4, 7, 32, 50, 51, 52, 53, 56, 57, 58, 59, 62, 63, 64, 65, 66, 73, 74, 75, 76, 85, 86, 87, 88, 89, 90, 91, 92, 93, 110, 111, 112, 113, 114, 115, 116, 117, 118, 119, 120, 121, 139, 140, 144, 145], none)) _ ?_
    refine ev_cond_k rfl (fun hx => absurd hx (by simp at hx)) (fun hc1 => ?_)
    clear hc1
    refine hn12 (some ([2, 3, 4, 7, 50, 51, 52, 53, 56, 57, 58, 59, 62, 63, 64, 65, 66, 73, 74, 75, 76, 85, 86, 87, 88, 89, 90, 91, 92, 93, 110, 111, 112, 113, 114, 115, 116, 117, 118, 119, 120, 121, 139, 140, 144, 145], none)) _ ?_
    refine ev_seq_k fun K15 hn15 hr15 he15 => ?_
    refine ev_ops_k fun K16 hk16 => ?_
    refine evL_take 1 fun K17 hk17 => ?_
    refine sh1 F1 ?_
    refine sd ?_
    refine hk17 _ ?_
    refine evL_take 1 fun K18 hk18 => ?_
    refine sh1 F1 ?_
    refine Or.inl (Or.inl ⟨_, ok_mSize M, ?_⟩)
    refine hk18 _ ?_
    refine sh1 F1 ?_
    refine hk16 _ ?_
    refine hn15 (some ([2, 3, 4, 7, 9, 10, 50, 51, 52, 53, 56, 57, 58, 59, 62, 63, 64, 65, 66, 73, 74, 75, 76, 85, 86, 87, 88, 89, 90, 91, 92, 93, 110, 111, 112, 113, 114, 115, 116, 117, 118, 119, 120, 121, 139, 140, 144, 145], none)) _ ?_
    refine ev_seq_k fun K19 hn19 hr19 he19 => ?_
    refine ev_ops_k fun K20 hk20 => ?_
    refine evL_take 1 fun K21 hk21 => ?_
    refine sh1 F1 ?_
    refine sd ?_
    refine hk21 _ ?_
    refine evL_take 1 fun K22 hk22 => ?_
    refine sh1 F1 ?_
    refine sd ?_
    refine hk22 _ ?_
    refine evL_take 1 fun K23 hk23 => ?_
    refine sh1 F1 ?_
    refine Or.inl (Or.inl ⟨_, c3, ?_⟩)
    refine hk23 _ ?_
    refine evL_take 8 fun K24 hk24 => ?_
    refine sh1 F1 ?_
    refine sd ?_
    refine hk24 _ ?_
    refine evL_take 1 fun K25 hk25 => ?_
    refine sh1 F1 ?_
    refine sd ?_
    refine hk25 _ ?_
    refine sh1 F1 ?_
    refine hk20 _ ?_
    refine hn19 (some ([2, 3, 4, 7, 9, 10, 11, 12, 13, 14, 50, 51, 52, 53, 56, 57, 58, 59, 62, 63, 64, 65, 66, 73, 74, 75, 76, 85, 86, 87, 88, 89, 90, 91, 92, 93, 110, 111, 112, 113, 114, 115, 116, 117, 118, 119, 120, 121, 139, 140, 144, 145], none)) _ ?_
    refine ev_seq_k fun K26 hn26 hr26 he26 => ?_
    refine ev_ops_k fun K27 hk27 => ?_
    refine evL_take 2 fun K28 hk28 => ?_
    refine sh1 F1 ?_
    refine sd ?_
    refine hk28 _ ?_
    refine evL_take 1 fun K29 hk29 => ?_
    refine sh1 F1 ?_
    refine sd ?_
    refine hk29 _ ?_
    refine evL_take 3 fun K30 hk30 => ?_
    refine sh1 F1 ?_
    refine sd ?_
    refine hk30 _ ?_
    refine evL_take 2 fun K31 hk31 => ?_
    refine sh1 F1 ?_
    refine sd ?_
    refine hk31 _ ?_
    refine evL_take 5 fun K32 hk32 => ?_
    refine sh1 F1 ?_
    refine sd ?_
    refine hk32 _ ?_
    refine evL_take 1 fun K33 hk33 => ?_
    refine sh1 F1 ?_
    refine sd ?_
    refine hk33 _ ?_
    refine evL_take 5 fun K34 hk34 => ?_
    refine sh1 F1 ?_
    refine sd ?_
    refine hk34 _ ?_
    refine evL_take 2 fun K35 hk35 => ?_
    refine sh1 F1 ?_
    refine sd ?_
    refine hk35 _ ?_
    refine sh1 F1 ?_
    refine hk27 _ ?_
    refine hn26 (some ([2, 3, 4, 7, 9, 11, 12, 13, 14, 15, 73, 74, 75, 76, 85, 86, 87, 88, 89, 90, 91, 92, 93, 110, 111, 112, 113, 114, 115, 116, 117, 118, 119, 120, 121, 139, 140, 144, 145], none)) _ ?_
    refine ev_seq_k fun K36 hn36 hr36 he36 => ?_
    refine ev_seq_k fun K37 hn37 hr37 he37 => ?_
    refine ev_ops_k fun K38 hk38 => ?_
    refine evL_take 3 fun K39 hk39 => ?_
    refine sh1 F1 ?_
    refine sd ?_
    refine hk39 _ ?_
    refine evL_take 1 fun K40 hk40 => ?_
    refine sh1 F1 ?_
    refine sd ?_
    refine hk40 _ ?_
    refine evL_take 4 fun K41 hk41 => ?_
    refine sh1 F1 ?_
    refine sd ?_
    refine hk41 _ ?_
    refine evL_take 1 fun K42 hk42 => ?_
    refine sh1 F1 ?_
    refine sd ?_
    refine hk42 _ ?_
    refine sh1 F1 ?_
    refine hk38 _ ?_
    refine hn37 (some ([2, 3, 4, 7, 9, 11, 12, 13, 14, 15, 77, 85, 86, 87, 88, 89, 90, 91, 92, 93, 110, 111, 112, 113, 114, 115, 116, 117, 118, 119, 120, 121, 139, 140, 144, 145], none)) _ ?_
    refine ev_cond_k rfl (fun hc2 => ?_) (fun hx => absurd hx (by simp at hx))
    clear hc2
    refine ev_seq_k fun K43 hn43 hr43 he43 => ?_
    refine ev_ops_k fun K44 hk44 => ?_
    refine evL_take 2 fun K45 hk45 => ?_
    refine sh1 F1 ?_
    refine sd ?_
    refine hk45 _ ?_
    refine sh1 F1 ?_
    refine hk44 _ ?_
    refine hn43 (some ([6], none)) _ ?_
    refine hr36 _ ?_
    exact sf1 F1
  have c4 := ok_mLast M 0 hM (by omega)
  generalize decide (PlcB M 0) = e0 at c4
  have c6 := ok_mNew th g ws
  have htail := refuse_tail th ws hw1 hw2
  generalize mnewM th ws = Q at c6 htail
  obtain ⟨Q1, Q2⟩ := Q
  simp only at c6 htail
  have hwr : wrongM M d.thread d.act.place = 1 := by unfold wrongM; rw [if_neg (fun h => h ⟨by omega, by omega⟩), if_pos (fun h => by have := h.2; omega)]
  rw [do_wrong (M := M) (d := d) (by omega) (by omega) (by rw [hwr]; decide), hwr] at c3
  rcases htail with ⟨u1, rfl⟩ | ⟨u1, u2, rfl⟩ | ⟨u1, u2, rfl⟩
  · skip
    unfold evFn sc_MemoryRefuses rv_MemoryRefuses
    have F1 := And.intro @h1 (And.intro @h6 (And.intro @t1 (And.intro @t2 (And.intro @t3 (And.intro @t4 @u1)))))
    refine ev_seq_k fun K1 hn1 hr1 he1 => ?_
    refine ev_ops_k fun K2 hk2 => ?_
    refine sh1 F1 ?_
    refine hk2 _ ?_
    refine hn1 (some ([2, 3, 4, 50, 51, 52, 53, 56, 57, 58, 59, 62, 63, 64, 65, 66, 73, 74, 75, 76, 85, 86, 87, 88, 89, 90, 91, 92, 93, 110, 111, 112, 113, 114, 115, 116, 117, 118, 119, 120, 121, 139, 140, 144, 145], none)) _ ?_
    refine ev_seq_k fun K3 hn3 hr3 he3 => ?_
    refine ev_seq_k fun K4 hn4 hr4 he4 => ?_
    refine ev_ops_k fun K5 hk5 => ?_
    refine evL_take 1 fun K6 hk6 => ?_
    refine sh1 F1 ?_
    refine Or.inl (Or.inl ⟨_, ok_l4awake, ?_⟩)
    refine hk6 _ ?_
    refine sh1 F1 ?_
    refine hk5 _ ?_
    refine hn4 (some ([2, 3, 4, 25, 50, 51, 52, 53, 56, 57, 58, 59, 62, 63, 64, 65, 66, 73, 74, 75, 76, 85, 86, 87, 88, 89, 90, 91, 92, 93, 110, 111, 112, 113, 114, 115, 116, 117, 118, 119, 120, 121, 139, 140, 144, 145], none)) _ ?_
    refine ev_cond_k rfl (fun hx => absurd hx (by simp at hx)) (fun hc0 => ?_)
    clear hc0
    refine hn3 (some ([2, 3, 4, 50, 51, 52, 53, 56, 57, 58, 59, 62, 63, 64, 65, 66, 73, 74, 75, 76, 85, 86, 87, 88, 89, 90, 91, 92, 93, 110, 111, 112, 113, 114, 115, 116, 117, 118, 119, 120, 121, 139, 140, 144, 145], none)) _ ?_
    refine ev_seq_k fun K7 hn7 hr7 he7 => ?_
    refine ev_ops_k fun K8 hk8 => ?_
    refine evL_take 1 fun K9 hk9 => ?_
    refine sh1 F1 ?_
    refine sd ?_
    refine hk9 _ ?_
    refine evL_take 1 fun K10 hk10 => ?_
    refine sh1 F1 ?_
    refine Or.inl (Or.inl ⟨_, c1, ?_⟩)
    refine hk10 _ ?_
    refine evL_take 5 fun K11 hk11 => ?_
    refine sh1 F1 ?_
    refine sd ?_
    refine hk11 _ ?_
    refine sh1 F1 ?_
    refine hk8 _ ?_
    refine hn7 (some ([2, 3, 4, 7, 8, 50, 51, 52, 53, 56, 57, 58, 59, 62, 63, 64, 65, 66, 73, 74, 75, 76, 85, 86, 87, 88, 89, 90, 91, 92, 93, 110, 111, 112, 113, 114, 115, 116, 117, 118, 119, 120, 121, 139, 140, 144, 145], none)) _ ?_
    refine ev_seq_k fun K12 hn12 hr12 he12 => ?_
    refine ev_seq_k fun K13 hn13 hr13 he13 => ?_
    refine ev_ops_k fun K14 hk14 => ?_
    refine sh1 F1 ?_
    refine hk14 _ ?_
    refine hn13 (some ([2, 3, 4, 7, 32, 50, 51, 52, 53, 56, 57, 58, 59, 62, 63, 64, 65, 66, 73, 74, 75, 76, 85, 86, 87, 88, 89, 90, 91, 92, 93, 110, 111, 112, 113, 114, 115, 116, 117, 118, 119, 120, 121, 139, 140, 144, 145], none)) _ ?_
    refine ev_cond_k rfl (fun hx => absurd hx (by simp at hx)) (fun hc1 => ?_)
    clear hc1
    refine hn12 (some ([2, 3, 4, 7, 50, 51, 52, 53, 56, 57, 58, 59, 62, 63, 64, 65, 66, 73, 74, 75, 76, 85, 86, 87, 88, 89, 90, 91, 92, 93, 110, 111, 112, 113, 114, 115, 116, 117, 118, 119, 120, 121, 139, 140, 144, 145], none)) _ ?_
    refine ev_seq_k fun K15 hn15 hr15 he15 => ?_
    refine ev_ops_k fun K16 hk16 => ?_
    refine evL_take 1 fun K17 hk17 => ?_
    refine sh1 F1 ?_
    refine sd ?_
    refine hk17 _ ?_
    refine evL_take 1 fun K18 hk18 => ?_
    refine sh1 F1 ?_
    refine Or.inl (Or.inl ⟨_, ok_mSize M, ?_⟩)
    refine hk18 _ ?_
    refine sh1 F1 ?_
    refine hk16 _ ?_
    refine hn15 (some ([2, 3, 4, 7, 9, 10, 50, 51, 52, 53, 56, 57, 58, 59, 62, 63, 64, 65, 66, 73, 74, 75, 76, 85, 86, 87, 88, 89, 90, 91, 92, 93, 110, 111, 112, 113, 114, 115, 116, 117, 118, 119, 120, 121, 139, 140, 144, 145], none)) _ ?_
    refine ev_seq_k fun K19 hn19 hr19 he19 => ?_
    refine ev_ops_k fun K20 hk20 => ?_
    refine evL_take 1 fun K21 hk21 => ?_
    refine sh1 F1 ?_
    refine sd ?_
    refine hk21 _ ?_
    refine evL_take 1 fun K22 hk22 => ?_
    refine sh1 F1 ?_
    refine sd ?_
    refine hk22 _ ?_
    refine evL_take 1 fun K23 hk23 => ?_
    refine sh1 F1 ?_
    refine Or.inl (Or.inl ⟨_, c3, ?_⟩)
    refine hk23 _ ?_
    refine evL_take 8 fun K24 hk24 => ?_
    refine sh1 F1 ?_
    refine sd ?_
    refine hk24 _ ?_
    refine evL_take 1 fun K25 hk25 => ?_
    refine sh1 F1 ?_
    refine sd ?_
    refine hk25 _ ?_
    refine sh1 F1 ?_
    refine hk20 _ ?_
    refine hn19 (some ([2, 3, 4, 7, 9, 10, 11, 12, 13, 14, 50, 51, 52, 53, 56, 57, 58, 59, 62, 63, 64, 65, 66, 73, 74, 75, 76, 85, 86, 87, 88, 89, 90, 91, 92, 93, 110, 111, 112, 113, 114, 115, 116, 117, 118, 119, 120, 121, 139, 140, 144, 145], none)) _ ?_
    refine ev_seq_k fun K26 hn26 hr26 he26 => ?_
    refine ev_ops_k fun K27 hk27 => ?_
    refine evL_take 2 fun K28 hk28 => ?_
    refine sh1 F1 ?_
    refine sd ?_
    refine hk28 _ ?_
    refine evL_take 1 fun K29 hk29 => ?_
    refine sh1 F1 ?_
    refine sd ?_
    refine hk29 _ ?_
    refine evL_take 3 fun K30 hk30 => ?_
    refine sh1 F1 ?_
    refine sd ?_
    refine hk30 _ ?_
    refine evL_take 2 fun K31 hk31 => ?_
    refine sh1 F1 ?_
    refine sd ?_
    refine hk31 _ ?_
    refine evL_take 5 fun K32 hk32 => ?_
    refine sh1 F1 ?_
    refine sd ?_
    refine hk32 _ ?_
    refine evL_take 1 fun K33 hk33 => ?_
    refine sh1 F1 ?_
    refine sd ?_
    refine hk33 _ ?_
    refine evL_take 5 fun K34 hk34 => ?_
    refine sh1 F1 ?_
    refine sd ?_
    refine hk34 _ ?_
    refine evL_take 2 fun K35 hk35 => ?_
    refine sh1 F1 ?_
    refine sd ?_
    refine hk35 _ ?_
    refine sh1 F1 ?_
    refine hk27 _ ?_
    refine hn26 (some ([2, 3, 4, 7, 9, 11, 12, 13, 14, 15, 73, 74, 75, 76, 85, 86, 87, 88, 89, 90, 91, 92, 93, 110, 111, 112, 113, 114, 115, 116, 117, 118, 119, 120, 121, 139, 140, 144, 145], none)) _ ?_
    refine ev_seq_k fun K36 hn36 hr36 he36 => ?_
    refine ev_seq_k fun K37 hn37 hr37 he37 => ?_
    refine ev_ops_k fun K38 hk38 => ?_
    refine evL_take 3 fun K39 hk39 => ?_
    refine sh1 F1 ?_
    refine sd ?_
    refine hk39 _ ?_
    refine evL_take 1 fun K40 hk40 => ?_
    refine sh1 F1 ?_
    refine sd ?_
    refine hk40 _ ?_
    refine evL_take 4 fun K41 hk41 => ?_
    refine sh1 F1 ?_
    refine sd ?_
    refine hk41 _ ?_
    refine evL_take 1 fun K42 hk42 => ?_
    refine sh1 F1 ?_
    refine sd ?_
    refine hk42 _ ?_
    refine sh1 F1 ?_
    refine hk38 _ ?_
    refine hn37 (some ([2, 3, 4, 7, 9, 11, 12, 13, 14, 15, 77, 85, 86, 87, 88, 89, 90, 91, 92, 93, 110, 111, 112, 113, 114, 115, 116, 117, 118, 119, 120, 121, 139, 140, 144, 145], none)) _ ?_
    refine ev_cond_k rfl (fun hx => absurd hx (by simp at hx)) (fun hc2 => ?_)
    clear hc2
    refine hn36 (some ([2, 3, 4, 7, 9, 11, 12, 13, 14, 15, 85, 86, 87, 88, 89, 90, 91, 92, 93, 110, 111, 112, 113, 114, 115, 116, 117, 118, 119, 120, 121, 139, 140, 144, 145], none)) _ ?_
    refine ev_seq_k fun K43 hn43 hr43 he43 => ?_
    refine ev_seq_k fun K44 hn44 hr44 he44 => ?_
    refine ev_ops_k fun K45 hk45 => ?_
    refine evL_take 3 fun K46 hk46 => ?_
    refine sh1 F1 ?_
    refine sd ?_
    refine hk46 _ ?_
    refine evL_take 1 fun K47 hk47 => ?_
    refine sh1 F1 ?_
    refine Or.inl ⟨_, eqsh_bool true true, ?_⟩
    refine hk47 _ ?_
    refine evL_take 6 fun K48 hk48 => ?_
    refine sh1 F1 ?_
    refine sd ?_
    refine hk48 _ ?_
    refine evL_take 1 fun K49 hk49 => ?_
    refine sh1 F1 ?_
    refine hk49 _ ?_
    refine evL_take 1 fun K50 hk50 => ?_
    refine sh1 F1 ?_
    refine Or.inl ⟨_, eqsh_word_refl zWord, ?_⟩
    refine hk50 _ ?_
    refine sh1 F1 ?_
    refine hk45 _ ?_
    refine hn44 (some ([2, 3, 4, 7, 9, 11, 14, 15, 94, 110, 111, 112, 113, 114, 115, 116, 117, 118, 119, 120, 121, 139, 140, 144, 145], none)) _ ?_
    refine ev_cond_k rfl (fun hx => absurd hx (by simp at hx)) (fun hc3 => ?_)
    clear hc3
    refine hn43 (some ([2, 3, 4, 7, 9, 11, 14, 15, 110, 111, 112, 113, 114, 115, 116, 117, 118, 119, 120, 121, 139, 140, 144, 145], none)) _ ?_
    refine ev_seq_k fun K51 hn51 hr51 he51 => ?_
    refine ev_seq_k fun K52 hn52 hr52 he52 => ?_
    refine ev_ops_k fun K53 hk53 => ?_
    refine sh1 F1 ?_
    refine hk53 _ ?_
    refine hn52 (some ([2, 3, 4, 7, 9, 11, 14, 95, 110, 111, 112, 113, 114, 115, 116, 117, 118, 119, 120, 121, 139, 140, 144, 145], none)) _ ?_
    refine ev_cond_k rfl (fun hc4 => ?_) (fun hx => absurd hx (by simp at hx))
    clear hc4
    refine ev_seq_k fun K54 hn54 hr54 he54 => ?_
    refine ev_ops_k fun K55 hk55 => ?_
    refine evL_take 1 fun K56 hk56 => ?_
    refine sh1 F1 ?_
    refine sd ?_
    refine hk56 _ ?_
    refine evL_take 1 fun K57 hk57 => ?_
    refine sh1 F1 ?_
    refine Or.inl (Or.inl ⟨_, c4, ?_⟩)
    refine hk57 _ ?_
    refine evL_take 5 fun K58 hk58 => ?_
    refine sh1 F1 ?_
    refine sd ?_
    refine hk58 _ ?_
    refine sh1 F1 ?_
    refine hk55 _ ?_
    refine hn54 (some ([2, 3, 4, 9, 11, 14, 16, 110, 111, 112, 113, 114, 115, 116, 117, 118, 119, 120, 121, 139, 140, 144, 145], none)) _ ?_
    refine ev_seq_k fun K59 hn59 hr59 he59 => ?_
    refine ev_ops_k fun K60 hk60 => ?_
    refine evL_take 1 fun K61 hk61 => ?_
    refine sh1 F1 ?_
    refine sd ?_
    refine hk61 _ ?_
    refine evL_take 1 fun K62 hk62 => ?_
    refine sh1 F1 ?_
    refine Or.inl (Or.inl ⟨_, c4, ?_⟩)
    refine hk62 _ ?_
    refine evL_take 5 fun K63 hk63 => ?_
    refine sh1 F1 ?_
    refine sd ?_
    refine hk63 _ ?_
    refine sh1 F1 ?_
    refine hk60 _ ?_
    refine hn59 (some ([2, 3, 4, 9, 14, 16, 18, 110, 111, 112, 113, 114, 115, 116, 117, 118, 119, 120, 121, 139, 140, 144, 145], none)) _ ?_
    refine ev_seq_k fun K64 hn64 hr64 he64 => ?_
    refine ev_ops_k fun K65 hk65 => ?_
    refine evL_take 1 fun K66 hk66 => ?_
    refine sh1 F1 ?_
    refine sd ?_
    refine hk66 _ ?_
    refine evL_take 1 fun K67 hk67 => ?_
    refine sh1 F1 ?_
    refine sd ?_
    refine hk67 _ ?_
    refine evL_take 1 fun K68 hk68 => ?_
    refine sh1 F1 ?_
    refine Or.inl ⟨_, eqsh_word_refl _, ?_⟩
    refine hk68 _ ?_
    refine evL_take 3 fun K69 hk69 => ?_
    refine sh1 F1 ?_
    refine sd ?_
    refine hk69 _ ?_
    refine evL_take 1 fun K70 hk70 => ?_
    refine sh1 F1 ?_
    refine sd ?_
    refine hk70 _ ?_
    refine evL_take 3 fun K71 hk71 => ?_
    refine sh1 F1 ?_
    refine sd ?_
    refine hk71 _ ?_
    refine evL_take 2 fun K72 hk72 => ?_
    refine sh1 F1 ?_
    refine sd ?_
    refine hk72 _ ?_
    refine evL_take 3 fun K73 hk73 => ?_
    refine sh1 F1 ?_
    refine sd ?_
    refine hk73 _ ?_
    refine evL_take 1 fun K74 hk74 => ?_
    refine sh1 F1 ?_
    refine Or.inl ⟨_, eqsh_bool false false, ?_⟩
    refine hk74 _ ?_
    refine sh1 F1 ?_
    refine hk65 _ ?_
    refine hn64 (some ([2, 3, 122, 139, 140, 144, 145], none)) _ ?_
    refine ev_cond_k rfl (fun hx => absurd hx (by simp at hx)) (fun hc5 => ?_)
    clear hc5
    refine hn51 (some ([2, 3, 139, 140, 144, 145], none)) _ ?_
    refine ev_seq_k fun K75 hn75 hr75 he75 => ?_
    refine ev_ops_k fun K76 hk76 => ?_
    refine evL_take 3 fun K77 hk77 => ?_
    refine sh1 F1 ?_
    refine sd ?_
    refine hk77 _ ?_
    refine evL_take 1 fun K78 hk78 => ?_
    refine sh1 F1 ?_
    refine Or.inl (Or.inl ⟨_, c6, ?_⟩)
    refine hk78 _ ?_
    refine evL_take 5 fun K79 hk79 => ?_
    refine sh1 F1 ?_
    refine sd ?_
    refine hk79 _ ?_
    refine sh1 F1 ?_
    refine hk76 _ ?_
    refine hn75 (some ([2, 21, 139, 140, 144, 145], none)) _ ?_
    refine ev_seq_k fun K80 hn80 hr80 he80 => ?_
    refine ev_ops_k fun K81 hk81 => ?_
    refine evL_take 1 fun K82 hk82 => ?_
    refine sh1 F1 ?_
    refine Or.inl (Or.inl ⟨_, ok_mNew0, ?_⟩)
    refine hk82 _ ?_
    refine evL_take 5 fun K83 hk83 => ?_
    refine sh1 F1 ?_
    refine sd ?_
    refine hk83 _ ?_
    refine sh1 F1 ?_
    refine hk81 _ ?_
    refine hn80 (some ([2, 21, 23, 139, 140, 144, 145], none)) _ ?_
    refine ev_seq_k fun K84 hn84 hr84 he84 => ?_
    refine ev_ops_k fun K85 hk85 => ?_
    refine evL_take 2 fun K86 hk86 => ?_
    refine sh1 F1 ?_
    refine sd ?_
    refine hk86 _ ?_
    refine evL_take 2 fun K87 hk87 => ?_
    refine sh1 F1 ?_
    refine sd ?_
    refine hk87 _ ?_
    refine evL_take 3 fun K88 hk88 => ?_
    refine sh1 F1 ?_
    refine sd ?_
    refine hk88 _ ?_
    refine evL_take 1 fun K89 hk89 => ?_
    refine sh1 F1 ?_
    refine hk89 _ ?_
    refine evL_take 1 fun K90 hk90 => ?_
    refine sh1 F1 ?_
    refine Or.inl ⟨_, eqsh_bool false false, ?_⟩
    refine hk90 _ ?_
    refine evL_take 3 fun K91 hk91 => ?_
    refine sh1 F1 ?_
    refine sd ?_
    refine hk91 _ ?_
    refine sh1 F1 ?_
    refine hk85 _ ?_
    refine hn84 (some ([6], none)) _ ?_
    exact sf1 F1
  · skip
    unfold evFn sc_MemoryRefuses rv_MemoryRefuses
    have F1 := And.intro @h1 (And.intro @h6 (And.intro @t1 (And.intro @t2 (And.intro @t3 (And.intro @t4 (And.intro @u1 @u2))))))
    refine ev_seq_k fun K1 hn1 hr1 he1 => ?_
    refine ev_ops_k fun K2 hk2 => ?_
    refine sh1 F1 ?_
    refine hk2 _ ?_
    refine hn1 (some ([2, 3, 4, 50, 51, 52, 53, 56, 57, 58, 59, 62, 63, 64, 65, 66, 73, 74, 75, 76, 85, 86, 87, 88, 89, 90, 91, 92, 93, 110, 111, 112, 113, 114, 115, 116, 117, 118, 119, 120, 121, 139, 140, 144, 145], none)) _ ?_
    refine ev_seq_k fun K3 hn3 hr3 he3 => ?_
    refine ev_seq_k fun K4 hn4 hr4 he4 => ?_
    refine ev_ops_k fun K5 hk5 => ?_
    refine evL_take 1 fun K6 hk6 => ?_
    refine sh1 F1 ?_
    refine Or.inl (Or.inl ⟨_, ok_l4awake, ?_⟩)
    refine hk6 _ ?_
    refine sh1 F1 ?_
    refine hk5 _ ?_
    refine hn4 (some ([2, 3, 4, 25, 50, 51, 52, 53, 56, 57, 58, 59, 62, 63, 64, 65, 66, 73, 74, 75, 76, 85, 86, 87, 88, 89, 90, 91, 92, 93, 110, 111, 112, 113, 114, 115, 116, 117, 118, 119, 120, 121, 139, 140, 144, 145], none)) _ ?_
    refine ev_cond_k rfl (fun hx => absurd hx (by simp at hx)) (fun hc0 => ?_)
    clear hc0
    refine hn3 (some ([2, 3, 4, 50, 51, 52, 53, 56, 57, 58, 59, 62, 63, 64, 65, 66, 73, 74, 75, 76, 85, 86, 87, 88, 89, 90, 91, 92, 93, 110, 111, 112, 113, 114, 115, 116, 117, 118, 119, 120, 121, 139, 140, 144, 145], none)) _ ?_
    refine ev_seq_k fun K7 hn7 hr7 he7 => ?_
    refine ev_ops_k fun K8 hk8 => ?_
    refine evL_take 1 fun K9 hk9 => ?_
    refine sh1 F1 ?_
    refine sd ?_
    refine hk9 _ ?_
    refine evL_take 1 fun K10 hk10 => ?_
    refine sh1 F1 ?_
    refine Or.inl (Or.inl ⟨_, c1, ?_⟩)
    refine hk10 _ ?_
    refine evL_take 5 fun K11 hk11 => ?_
    refine sh1 F1 ?_
    refine sd ?_
    refine hk11 _ ?_
    refine sh1 F1 ?_
    refine hk8 _ ?_
    refine hn7 (some ([2, 3, 4, 7, 8, 50, 51, 52, 53, 56, 57, 58, 59, 62, 63, 64, 65, 66, 73, 74, 75, 76, 85, 86, 87, 88, 89, 90, 91, 92, 93, 110, 111, 112, 113, 114, 115, 116, 117, 118, 119, 120, 121, 139, 140, 144, 145], none)) _ ?_
    refine ev_seq_k fun K12 hn12 hr12 he12 => ?_
    refine ev_seq_k fun K13 hn13 hr13 he13 => ?_
    refine ev_ops_k fun K14 hk14 => ?_
    refine sh1 F1 ?_
    refine hk14 _ ?_
    refine hn13 (some ([2, 3, 4, 7, 32, 50, 51, 52, 53, 56, 57, 58, 59, 62, 63, 64, 65, 66, 73, 74, 75, 76, 85, 86, 87, 88, 89, 90, 91, 92, 93, 110, 111, 112, 113, 114, 115, 116, 117, 118, 119, 120, 121, 139, 140, 144, 145], none)) _ ?_
    refine ev_cond_k rfl (fun hx => absurd hx (by simp at hx)) (fun hc1 => ?_)
    clear hc1
    refine hn12 (some ([2, 3, 4, 7, 50, 51, 52, 53, 56, 57, 58, 59, 62, 63, 64, 65, 66, 73, 74, 75, 76, 85, 86, 87, 88, 89, 90, 91, 92, 93, 110, 111, 112, 113, 114, 115, 116, 117, 118, 119, 120, 121, 139, 140, 144, 145], none)) _ ?_
    refine ev_seq_k fun K15 hn15 hr15 he15 => ?_
    refine ev_ops_k fun K16 hk16 => ?_
    refine evL_take 1 fun K17 hk17 => ?_
    refine sh1 F1 ?_
    refine sd ?_
    refine hk17 _ ?_
    refine evL_take 1 fun K18 hk18 => ?_
    refine sh1 F1 ?_
    refine Or.inl (Or.inl ⟨_, ok_mSize M, ?_⟩)
    refine hk18 _ ?_
    refine sh1 F1 ?_
    refine hk16 _ ?_
    refine hn15 (some ([2, 3, 4, 7, 9, 10, 50, 51, 52, 53, 56, 57, 58, 59, 62, 63, 64, 65, 66, 73, 74, 75, 76, 85, 86, 87, 88, 89, 90, 91, 92, 93, 110, 111, 112, 113, 114, 115, 116, 117, 118, 119, 120, 121, 139, 140, 144, 145], none)) _ ?_
    refine ev_seq_k fun K19 hn19 hr19 he19 => ?_
    refine ev_ops_k fun K20 hk20 => ?_
    refine evL_take 1 fun K21 hk21 => ?_
    refine sh1 F1 ?_
    refine sd ?_
    refine hk21 _ ?_
    refine evL_take 1 fun K22 hk22 => ?_
    refine sh1 F1 ?_
    refine sd ?_
    refine hk22 _ ?_
    refine evL_take 1 fun K23 hk23 => ?_
    refine sh1 F1 ?_
    refine Or.inl (Or.inl ⟨_, c3, ?_⟩)
    refine hk23 _ ?_
    refine evL_take 8 fun K24 hk24 => ?_
    refine sh1 F1 ?_
    refine sd ?_
    refine hk24 _ ?_
    refine evL_take 1 fun K25 hk25 => ?_
    refine sh1 F1 ?_
    refine sd ?_
    refine hk25 _ ?_
    refine sh1 F1 ?_
    refine hk20 _ ?_
    refine hn19 (some ([2, 3, 4, 7, 9, 10, 11, 12, 13, 14, 50, 51, 52, 53, 56, 57, 58, 59, 62, 63, 64, 65, 66, 73, 74, 75, 76, 85, 86, 87, 88, 89, 90, 91, 92, 93, 110, 111, 112, 113, 114, 115, 116, 117, 118, 119, 120, 121, 139, 140, 144, 145], none)) _ ?_
    refine ev_seq_k fun K26 hn26 hr26 he26 => ?_
    refine ev_ops_k fun K27 hk27 => ?_
    refine evL_take 2 fun K28 hk28 => ?_
    refine sh1 F1 ?_
    refine sd ?_
    refine hk28 _ ?_
    refine evL_take 1 fun K29 hk29 => ?_
    refine sh1 F1 ?_
    refine sd ?_
    refine hk29 _ ?_
    refine evL_take 3 fun K30 hk30 => ?_
    refine sh1 F1 ?_
    refine sd ?_
    refine hk30 _ ?_
    refine evL_take 2 fun K31 hk31 => ?_
    refine sh1 F1 ?_
    refine sd ?_
    refine hk31 _ ?_
    refine evL_take 5 fun K32 hk32 => ?_
    refine sh1 F1 ?_
    refine sd ?_
    refine hk32 _ ?_
    refine evL_take 1 fun K33 hk33 => ?_
    refine sh1 F1 ?_
    refine sd ?_
    refine hk33 _ ?_
    refine evL_take 5 fun K34 hk34 => ?_
    refine sh1 F1 ?_
    refine sd ?_
    refine hk34 _ ?_
    refine evL_take 2 fun K35 hk35 => ?_
    refine sh1 F1 ?_
    refine sd ?_
    refine hk35 _ ?_
    refine sh1 F1 ?_
    refine hk27 _ ?_
    refine hn26 (some ([2, 3, 4, 7, 9, 11, 12, 13, 14, 15, 73, 74, 75, 76, 85, 86, 87, 88, 89, 90, 91, 92, 93, 110, 111, 112, 113, 114, 115, 116, 117, 118, 119, 120, 121, 139, 140, 144, 145], none)) _ ?_
    refine ev_seq_k fun K36 hn36 hr36 he36 => ?_
    refine ev_seq_k fun K37 hn37 hr37 he37 => ?_
    refine ev_ops_k fun K38 hk38 => ?_
    refine evL_take 3 fun K39 hk39 => ?_
    refine sh1 F1 ?_
    refine sd ?_
    refine hk39 _ ?_
    refine evL_take 1 fun K40 hk40 => ?_
    refine sh1 F1 ?_
    refine sd ?_
    refine hk40 _ ?_
    refine evL_take 4 fun K41 hk41 => ?_
    refine sh1 F1 ?_
    refine sd ?_
    refine hk41 _ ?_
    refine evL_take 1 fun K42 hk42 => ?_
    refine sh1 F1 ?_
    refine sd ?_
    refine hk42 _ ?_
    refine sh1 F1 ?_
    refine hk38 _ ?_
    refine hn37 (some ([2, 3, 4, 7, 9, 11, 12, 13, 14, 15, 77, 85, 86, 87, 88, 89, 90, 91, 92, 93, 110, 111, 112, 113, 114, 115, 116, 117, 118, 119, 120, 121, 139, 140, 144, 145], none)) _ ?_
    refine ev_cond_k rfl (fun hx => absurd hx (by simp at hx)) (fun hc2 => ?_)
    clear hc2
    refine hn36 (some ([2, 3, 4, 7, 9, 11, 12, 13, 14, 15, 85, 86, 87, 88, 89, 90, 91, 92, 93, 110, 111, 112, 113, 114, 115, 116, 117, 118, 119, 120, 121, 139, 140, 144, 145], none)) _ ?_
    refine ev_seq_k fun K43 hn43 hr43 he43 => ?_
    refine ev_seq_k fun K44 hn44 hr44 he44 => ?_
    refine ev_ops_k fun K45 hk45 => ?_
    refine evL_take 3 fun K46 hk46 => ?_
    refine sh1 F1 ?_
    refine sd ?_
    refine hk46 _ ?_
    refine evL_take 1 fun K47 hk47 => ?_
    refine sh1 F1 ?_
    refine Or.inl ⟨_, eqsh_bool true true, ?_⟩
    refine hk47 _ ?_
    refine evL_take 6 fun K48 hk48 => ?_
    refine sh1 F1 ?_
    refine sd ?_
    refine hk48 _ ?_
    refine evL_take 1 fun K49 hk49 => ?_
    refine sh1 F1 ?_
    refine hk49 _ ?_
    refine evL_take 1 fun K50 hk50 => ?_
    refine sh1 F1 ?_
    refine Or.inl ⟨_, eqsh_word_refl zWord, ?_⟩
    refine hk50 _ ?_
    refine sh1 F1 ?_
    refine hk45 _ ?_
    refine hn44 (some ([2, 3, 4, 7, 9, 11, 14, 15, 94, 110, 111, 112, 113, 114, 115, 116, 117, 118, 119, 120, 121, 139, 140, 144, 145], none)) _ ?_
    refine ev_cond_k rfl (fun hx => absurd hx (by simp at hx)) (fun hc3 => ?_)
    clear hc3
    refine hn43 (some ([2, 3, 4, 7, 9, 11, 14, 15, 110, 111, 112, 113, 114, 115, 116, 117, 118, 119, 120, 121, 139, 140, 144, 145], none)) _ ?_
    refine ev_seq_k fun K51 hn51 hr51 he51 => ?_
    refine ev_seq_k fun K52 hn52 hr52 he52 => ?_
    refine ev_ops_k fun K53 hk53 => ?_
    refine sh1 F1 ?_
    refine hk53 _ ?_
    refine hn52 (some ([2, 3, 4, 7, 9, 11, 14, 95, 110, 111, 112, 113, 114, 115, 116, 117, 118, 119, 120, 121, 139, 140, 144, 145], none)) _ ?_
    refine ev_cond_k rfl (fun hc4 => ?_) (fun hx => absurd hx (by simp at hx))
    clear hc4
    refine ev_seq_k fun K54 hn54 hr54 he54 => ?_
    refine ev_ops_k fun K55 hk55 => ?_
    refine evL_take 1 fun K56 hk56 => ?_
    refine sh1 F1 ?_
    refine sd ?_
    refine hk56 _ ?_
    refine evL_take 1 fun K57 hk57 => ?_
    refine sh1 F1 ?_
    refine Or.inl (Or.inl ⟨_, c4, ?_⟩)
    refine hk57 _ ?_
    refine evL_take 5 fun K58 hk58 => ?_
    refine sh1 F1 ?_
    refine sd ?_
    refine hk58 _ ?_
    refine sh1 F1 ?_
    refine hk55 _ ?_
    refine hn54 (some ([2, 3, 4, 9, 11, 14, 16, 110, 111, 112, 113, 114, 115, 116, 117, 118, 119, 120, 121, 139, 140, 144, 145], none)) _ ?_
    refine ev_seq_k fun K59 hn59 hr59 he59 => ?_
    refine ev_ops_k fun K60 hk60 => ?_
    refine evL_take 1 fun K61 hk61 => ?_
    refine sh1 F1 ?_
    refine sd ?_
    refine hk61 _ ?_
    refine evL_take 1 fun K62 hk62 => ?_
    refine sh1 F1 ?_
    refine Or.inl (Or.inl ⟨_, c4, ?_⟩)
    refine hk62 _ ?_
    refine evL_take 5 fun K63 hk63 => ?_
    refine sh1 F1 ?_
    refine sd ?_
    refine hk63 _ ?_
    refine sh1 F1 ?_
    refine hk60 _ ?_
    refine hn59 (some ([2, 3, 4, 9, 14, 16, 18, 110, 111, 112, 113, 114, 115, 116, 117, 118, 119, 120, 121, 139, 140, 144, 145], none)) _ ?_
    refine ev_seq_k fun K64 hn64 hr64 he64 => ?_
    refine ev_ops_k fun K65 hk65 => ?_
    refine evL_take 1 fun K66 hk66 => ?_
    refine sh1 F1 ?_
    refine sd ?_
    refine hk66 _ ?_
    refine evL_take 1 fun K67 hk67 => ?_
    refine sh1 F1 ?_
    refine sd ?_
    refine hk67 _ ?_
    refine evL_take 1 fun K68 hk68 => ?_
    refine sh1 F1 ?_
    refine Or.inl ⟨_, eqsh_word_refl _, ?_⟩
    refine hk68 _ ?_
    refine evL_take 3 fun K69 hk69 => ?_
    refine sh1 F1 ?_
    refine sd ?_
    refine hk69 _ ?_
    refine evL_take 1 fun K70 hk70 => ?_
    refine sh1 F1 ?_
    refine sd ?_
    refine hk70 _ ?_
    refine evL_take 3 fun K71 hk71 => ?_
    refine sh1 F1 ?_
    refine sd ?_
    refine hk71 _ ?_
    refine evL_take 2 fun K72 hk72 => ?_
    refine sh1 F1 ?_
    refine sd ?_
    refine hk72 _ ?_
    refine evL_take 3 fun K73 hk73 => ?_
    refine sh1 F1 ?_
    refine sd ?_
    refine hk73 _ ?_
    refine evL_take 1 fun K74 hk74 => ?_
    refine sh1 F1 ?_
    refine Or.inl ⟨_, eqsh_bool false false, ?_⟩
    refine hk74 _ ?_
    refine sh1 F1 ?_
    refine hk65 _ ?_
    refine hn64 (some ([2, 3, 122, 139, 140, 144, 145], none)) _ ?_
    refine ev_cond_k rfl (fun hx => absurd hx (by simp at hx)) (fun hc5 => ?_)
    clear hc5
    refine hn51 (some ([2, 3, 139, 140, 144, 145], none)) _ ?_
    refine ev_seq_k fun K75 hn75 hr75 he75 => ?_
    refine ev_ops_k fun K76 hk76 => ?_
    refine evL_take 3 fun K77 hk77 => ?_
    refine sh1 F1 ?_
    refine sd ?_
    refine hk77 _ ?_
    refine evL_take 1 fun K78 hk78 => ?_
    refine sh1 F1 ?_
    refine Or.inl (Or.inl ⟨_, c6, ?_⟩)
    refine hk78 _ ?_
    refine evL_take 5 fun K79 hk79 => ?_
    refine sh1 F1 ?_
    refine sd ?_
    refine hk79 _ ?_
    refine sh1 F1 ?_
    refine hk76 _ ?_
    refine hn75 (some ([2, 21, 139, 140, 144, 145], none)) _ ?_
    refine ev_seq_k fun K80 hn80 hr80 he80 => ?_
    refine ev_ops_k fun K81 hk81 => ?_
    refine evL_take 1 fun K82 hk82 => ?_
    refine sh1 F1 ?_
    refine Or.inl (Or.inl ⟨_, ok_mNew0, ?_⟩)
    refine hk82 _ ?_
    refine evL_take 5 fun K83 hk83 => ?_
    refine sh1 F1 ?_
    refine sd ?_
    refine hk83 _ ?_
    refine sh1 F1 ?_
    refine hk81 _ ?_
    refine hn80 (some ([2, 21, 23, 139, 140, 144, 145], none)) _ ?_
    refine ev_seq_k fun K84 hn84 hr84 he84 => ?_
    refine ev_ops_k fun K85 hk85 => ?_
    refine evL_take 2 fun K86 hk86 => ?_
    refine sh1 F1 ?_
    refine sd ?_
    refine hk86 _ ?_
    refine evL_take 2 fun K87 hk87 => ?_
    refine sh1 F1 ?_
    refine sd ?_
    refine hk87 _ ?_
    refine evL_take 3 fun K88 hk88 => ?_
    refine sh1 F1 ?_
    refine sd ?_
    refine hk88 _ ?_
    refine evL_take 1 fun K89 hk89 => ?_
    refine sh1 F1 ?_
    refine hk89 _ ?_
    refine evL_take 1 fun K90 hk90 => ?_
    refine sh1 F1 ?_
    refine Or.inl ⟨_, eqsh_bool false false, ?_⟩
    refine hk90 _ ?_
    refine evL_take 3 fun K91 hk91 => ?_
    refine sh1 F1 ?_
    refine sd ?_
    refine hk91 _ ?_
    refine sh1 F1 ?_
    refine hk85 _ ?_
    refine hn84 (some ([6], none)) _ ?_
    exact sf1 F1
  · skip
    unfold evFn sc_MemoryRefuses rv_MemoryRefuses
    have F1 := And.intro @h1 (And.intro @h6 (And.intro @t1 (And.intro @t2 (And.intro @t3 (And.intro @t4 (And.intro @u1 @u2))))))
    refine ev_seq_k fun K1 hn1 hr1 he1 => ?_
    refine ev_ops_k fun K2 hk2 => ?_
    refine sh1 F1 ?_
    refine hk2 _ ?_
    refine hn1 (some ([2, 3, 4, 50, 51, 52, 53, 56, 57, 58, 59, 62, 63, 64, 65, 66, 73, 74, 75, 76, 85, 86, 87, 88, 89, 90, 91, 92, 93, 110, 111, 112, 113, 114, 115, 116, 117, 118, 119, 120, 121, 139, 140, 144, 145], none)) _ ?_
    refine ev_seq_k fun K3 hn3 hr3 he3 => ?_
    refine ev_seq_k fun K4 hn4 hr4 he4 => ?_
    refine ev_ops_k fun K5 hk5 => ?_
    refine evL_take 1 fun K6 hk6 => ?_
    refine sh1 F1 ?_
    refine Or.inl (Or.inl ⟨_, ok_l4awake, ?_⟩)
    refine hk6 _ ?_
    refine sh1 F1 ?_
    refine hk5 _ ?_
    refine hn4 (some ([2, 3, 4, 25, 50, 51, 52, 53, 56, 57, 58, 59, 62, 63, 64, 65, 66, 73, 74, 75, 76, 85, 86, 87, 88, 89, 90, 91, 92, 93, 110, 111, 112, 113, 114, 115, 116, 117, 118, 119, 120, 121, 139, 140, 144, 145], none)) _ ?_
    refine ev_cond_k rfl (fun hx => absurd hx (by simp at hx)) (fun hc0 => ?_)
    clear hc0
    refine hn3 (some ([2, 3, 4, 50, 51, 52, 53, 56, 57, 58, 59, 62, 63, 64, 65, 66, 73, 74, 75, 76, 85, 86, 87, 88, 89, 90, 91, 92, 93, 110, 111, 112, 113, 114, 115, 116, 117, 118, 119, 120, 121, 139, 140, 144, 145], none)) _ ?_
    refine ev_seq_k fun K7 hn7 hr7 he7 => ?_
    refine ev_ops_k fun K8 hk8 => ?_
    refine evL_take 1 fun K9 hk9 => ?_
    refine sh1 F1 ?_
    refine sd ?_
    refine hk9 _ ?_
    refine evL_take 1 fun K10 hk10 => ?_
    refine sh1 F1 ?_
    refine Or.inl (Or.inl ⟨_, c1, ?_⟩)
    refine hk10 _ ?_
    refine evL_take 5 fun K11 hk11 => ?_
    refine sh1 F1 ?_
    refine sd ?_
    refine hk11 _ ?_
    refine sh1 F1 ?_
    refine hk8 _ ?_
    refine hn7 (some ([2, 3, 4, 7, 8, 50, 51, 52, 53, 56, 57, 58, 59, 62, 63, 64, 65, 66, 73, 74, 75, 76, 85, 86, 87, 88, 89, 90, 91, 92, 93, 110, 111, 112, 113, 114, 115, 116, 117, 118, 119, 120, 121, 139, 140, 144, 145], none)) _ ?_
    refine ev_seq_k fun K12 hn12 hr12 he12 => ?_
    refine ev_seq_k fun K13 hn13 hr13 he13 => ?_
    refine ev_ops_k fun K14 hk14 => ?_
    refine sh1 F1 ?_
    refine hk14 _ ?_
    refine hn13 (some ([2, 3, 4, 7, 32, 50, 51, 52, 53, 56, 57, 58, 59, 62, 63, 64, 65, 66, 73, 74, 75, 76, 85, 86, 87, 88, 89, 90, 91, 92, 93, 110, 111, 112, 113, 114, 115, 116, 117, 118, 119, 120, 121, 139, 140, 144, 145], none)) _ ?_
    refine ev_cond_k rfl (fun hx => absurd hx (by simp at hx)) (fun hc1 => ?_)
    clear hc1
    refine hn12 (some ([2, 3, 4, 7, 50, 51, 52, 53, 56, 57, 58, 59, 62, 63, 64, 65, 66, 73, 74, 75, 76, 85, 86, 87, 88, 89, 90, 91, 92, 93, 110, 111, 112, 113, 114, 115, 116, 117, 118, 119, 120, 121, 139, 140, 144, 145], none)) _ ?_
    refine ev_seq_k fun K15 hn15 hr15 he15 => ?_
    refine ev_ops_k fun K16 hk16 => ?_
    refine evL_take 1 fun K17 hk17 => ?_
    refine sh1 F1 ?_
    refine sd ?_
    refine hk17 _ ?_
    refine evL_take 1 fun K18 hk18 => ?_
    refine sh1 F1 ?_
    refine Or.inl (Or.inl ⟨_, ok_mSize M, ?_⟩)
    refine hk18 _ ?_
    refine sh1 F1 ?_
    refine hk16 _ ?_
    refine hn15 (some ([2, 3, 4, 7, 9, 10, 50, 51, 52, 53, 56, 57, 58, 59, 62, 63, 64, 65, 66, 73, 74, 75, 76, 85, 86, 87, 88, 89, 90, 91, 92, 93, 110, 111, 112, 113, 114, 115, 116, 117, 118, 119, 120, 121, 139, 140, 144, 145], none)) _ ?_
    refine ev_seq_k fun K19 hn19 hr19 he19 => ?_
    refine ev_ops_k fun K20 hk20 => ?_
    refine evL_take 1 fun K21 hk21 => ?_
    refine sh1 F1 ?_
    refine sd ?_
    refine hk21 _ ?_
    refine evL_take 1 fun K22 hk22 => ?_
    refine sh1 F1 ?_
    refine sd ?_
    refine hk22 _ ?_
    refine evL_take 1 fun K23 hk23 => ?_
    refine sh1 F1 ?_
    refine Or.inl (Or.inl ⟨_, c3, ?_⟩)
    refine hk23 _ ?_
    refine evL_take 8 fun K24 hk24 => ?_
    refine sh1 F1 ?_
    refine sd ?_
    refine hk24 _ ?_
    refine evL_take 1 fun K25 hk25 => ?_
    refine sh1 F1 ?_
    refine sd ?_
    refine hk25 _ ?_
    refine sh1 F1 ?_
    refine hk20 _ ?_
    refine hn19 (some ([2, 3, 4, 7, 9, 10, 11, 12, 13, 14, 50, 51, 52, 53, 56, 57, 58, 59, 62, 63, 64, 65, 66, 73, 74, 75, 76, 85, 86, 87, 88, 89, 90, 91, 92, 93, 110, 111, 112, 113, 114, 115, 116, 117, 118, 119, 120, 121, 139, 140, 144, 145], none)) _ ?_
    refine ev_seq_k fun K26 hn26 hr26 he26 => ?_
    refine ev_ops_k fun K27 hk27 => ?_
    refine evL_take 2 fun K28 hk28 => ?_
    refine sh1 F1 ?_
    refine sd ?_
    refine hk28 _ ?_
    refine evL_take 1 fun K29 hk29 => ?_
    refine sh1 F1 ?_
    refine sd ?_
    refine hk29 _ ?_
    refine evL_take 3 fun K30 hk30 => ?_
    refine sh1 F1 ?_
    refine sd ?_
    refine hk30 _ ?_
    refine evL_take 2 fun K31 hk31 => ?_
    refine sh1 F1 ?_
    refine sd ?_
    refine hk31 _ ?_
    refine evL_take 5 fun K32 hk32 => ?_
    refine sh1 F1 ?_
    refine sd ?_
    refine hk32 _ ?_
    refine evL_take 1 fun K33 hk33 => ?_
    refine sh1 F1 ?_
    refine sd ?_
    refine hk33 _ ?_
    refine evL_take 5 fun K34 hk34 => ?_
    refine sh1 F1 ?_
    refine sd ?_
    refine hk34 _ ?_
    refine evL_take 2 fun K35 hk35 => ?_
    refine sh1 F1 ?_
    refine sd ?_
    refine hk35 _ ?_
    refine sh1 F1 ?_
    refine hk27 _ ?_
    refine hn26 (some ([2, 3, 4, 7, 9, 11, 12, 13, 14, 15, 73, 74, 75, 76, 85, 86, 87, 88, 89, 90, 91, 92, 93, 110, 111, 112, 113, 114, 115, 116, 117, 118, 119, 120, 121, 139, 140, 144, 145], none)) _ ?_
    refine ev_seq_k fun K36 hn36 hr36 he36 => ?_
    refine ev_seq_k fun K37 hn37 hr37 he37 => ?_
    refine ev_ops_k fun K38 hk38 => ?_
    refine evL_take 3 fun K39 hk39 => ?_
    refine sh1 F1 ?_
    refine sd ?_
    refine hk39 _ ?_
    refine evL_take 1 fun K40 hk40 => ?_
    refine sh1 F1 ?_
    refine sd ?_
    refine hk40 _ ?_
    refine evL_take 4 fun K41 hk41 => ?_
    refine sh1 F1 ?_
    refine sd ?_
    refine hk41 _ ?_
    refine evL_take 1 fun K42 hk42 => ?_
    refine sh1 F1 ?_
    refine sd ?_
    refine hk42 _ ?_
    refine sh1 F1 ?_
    refine hk38 _ ?_
    refine hn37 (some ([2, 3, 4, 7, 9, 11, 12, 13, 14, 15, 77, 85, 86, 87, 88, 89, 90, 91, 92, 93, 110, 111, 112, 113, 114, 115, 116, 117, 118, 119, 120, 121, 139, 140, 144, 145], none)) _ ?_
    refine ev_cond_k rfl (fun hx => absurd hx (by simp at hx)) (fun hc2 => ?_)
    clear hc2
    refine hn36 (some ([2, 3, 4, 7, 9, 11, 12, 13, 14, 15, 85, 86, 87, 88, 89, 90, 91, 92, 93, 110, 111, 112, 113, 114, 115, 116, 117, 118, 119, 120, 121, 139, 140, 144, 145], none)) _ ?_
    refine ev_seq_k fun K43 hn43 hr43 he43 => ?_
    refine ev_seq_k fun K44 hn44 hr44 he44 => ?_
    refine ev_ops_k fun K45 hk45 => ?_
    refine evL_take 3 fun K46 hk46 => ?_
    refine sh1 F1 ?_
    refine sd ?_
    refine hk46 _ ?_
    refine evL_take 1 fun K47 hk47 => ?_
    refine sh1 F1 ?_
    refine Or.inl ⟨_, eqsh_bool true true, ?_⟩
    refine hk47 _ ?_
    refine evL_take 6 fun K48 hk48 => ?_
    refine sh1 F1 ?_
    refine sd ?_
    refine hk48 _ ?_
    refine evL_take 1 fun K49 hk49 => ?_
    refine sh1 F1 ?_
    refine hk49 _ ?_
    refine evL_take 1 fun K50 hk50 => ?_
    refine sh1 F1 ?_
    refine Or.inl ⟨_, eqsh_word_refl zWord, ?_⟩
    refine hk50 _ ?_
    refine sh1 F1 ?_
    refine hk45 _ ?_
    refine hn44 (some ([2, 3, 4, 7, 9, 11, 14, 15, 94, 110, 111, 112, 113, 114, 115, 116, 117, 118, 119, 120, 121, 139, 140, 144, 145], none)) _ ?_
    refine ev_cond_k rfl (fun hx => absurd hx (by simp at hx)) (fun hc3 => ?_)
    clear hc3
    refine hn43 (some ([2, 3, 4, 7, 9, 11, 14, 15, 110, 111, 112, 113, 114, 115, 116, 117, 118, 119, 120, 121, 139, 140, 144, 145], none)) _ ?_
    refine ev_seq_k fun K51 hn51 hr51 he51 => ?_
    refine ev_seq_k fun K52 hn52 hr52 he52 => ?_
    refine ev_ops_k fun K53 hk53 => ?_
    refine sh1 F1 ?_
    refine hk53 _ ?_
    refine hn52 (some ([2, 3, 4, 7, 9, 11, 14, 95, 110, 111, 112, 113, 114, 115, 116, 117, 118, 119, 120, 121, 139, 140, 144, 145], none)) _ ?_
    refine ev_cond_k rfl (fun hc4 => ?_) (fun hx => absurd hx (by simp at hx))
    clear hc4
    refine ev_seq_k fun K54 hn54 hr54 he54 => ?_
    refine ev_ops_k fun K55 hk55 => ?_
    refine evL_take 1 fun K56 hk56 => ?_
    refine sh1 F1 ?_
    refine sd ?_
    refine hk56 _ ?_
    refine evL_take 1 fun K57 hk57 => ?_
    refine sh1 F1 ?_
    refine Or.inl (Or.inl ⟨_, c4, ?_⟩)
    refine hk57 _ ?_
    refine evL_take 5 fun K58 hk58 => ?_
    refine sh1 F1 ?_
    refine sd ?_
    refine hk58 _ ?_
    refine sh1 F1 ?_
    refine hk55 _ ?_
    refine hn54 (some ([2, 3, 4, 9, 11, 14, 16, 110, 111, 112, 113, 114, 115, 116, 117, 118, 119, 120, 121, 139, 140, 144, 145], none)) _ ?_
    refine ev_seq_k fun K59 hn59 hr59 he59 => ?_
    refine ev_ops_k fun K60 hk60 => ?_
    refine evL_take 1 fun K61 hk61 => ?_
    refine sh1 F1 ?_
    refine sd ?_
    refine hk61 _ ?_
    refine evL_take 1 fun K62 hk62 => ?_
    refine sh1 F1 ?_
    refine Or.inl (Or.inl ⟨_, c4, ?_⟩)
    refine hk62 _ ?_
    refine evL_take 5 fun K63 hk63 => ?_
    refine sh1 F1 ?_
    refine sd ?_
    refine hk63 _ ?_
    refine sh1 F1 ?_
    refine hk60 _ ?_
    refine hn59 (some ([2, 3, 4, 9, 14, 16, 18, 110, 111, 112, 113, 114, 115, 116, 117, 118, 119, 120, 121, 139, 140, 144, 145], none)) _ ?_
    refine ev_seq_k fun K64 hn64 hr64 he64 => ?_
    refine ev_ops_k fun K65 hk65 => ?_
    refine evL_take 1 fun K66 hk66 => ?_
    refine sh1 F1 ?_
    refine sd ?_
    refine hk66 _ ?_
    refine evL_take 1 fun K67 hk67 => ?_
    refine sh1 F1 ?_
    refine sd ?_
    refine hk67 _ ?_
    refine evL_take 1 fun K68 hk68 => ?_
    refine sh1 F1 ?_
    refine Or.inl ⟨_, eqsh_word_refl _, ?_⟩
    refine hk68 _ ?_
    refine evL_take 3 fun K69 hk69 => ?_
    refine sh1 F1 ?_
    refine sd ?_
    refine hk69 _ ?_
    refine evL_take 1 fun K70 hk70 => ?_
    refine sh1 F1 ?_
    refine sd ?_
    refine hk70 _ ?_
    refine evL_take 3 fun K71 hk71 => ?_
    refine sh1 F1 ?_
    refine sd ?_
    refine hk71 _ ?_
    refine evL_take 2 fun K72 hk72 => ?_
    refine sh1 F1 ?_
    refine sd ?_
    refine hk72 _ ?_
    refine evL_take 3 fun K73 hk73 => ?_
    refine sh1 F1 ?_
    refine sd ?_
    refine hk73 _ ?_
    refine evL_take 1 fun K74 hk74 => ?_
    refine sh1 F1 ?_
    refine Or.inl ⟨_, eqsh_bool false false, ?_⟩
    refine hk74 _ ?_
    refine sh1 F1 ?_
    refine hk65 _ ?_
    refine hn64 (some ([2, 3, 122, 139, 140, 144, 145], none)) _ ?_
    refine ev_cond_k rfl (fun hx => absurd hx (by simp at hx)) (fun hc5 => ?_)
    clear hc5
    refine hn51 (some ([2, 3, 139, 140, 144, 145], none)) _ ?_
    refine ev_seq_k fun K75 hn75 hr75 he75 => ?_
    refine ev_ops_k fun K76 hk76 => ?_
    refine evL_take 3 fun K77 hk77 => ?_
    refine sh1 F1 ?_
    refine sd ?_
    refine hk77 _ ?_
    refine evL_take 1 fun K78 hk78 => ?_
    refine sh1 F1 ?_
    refine Or.inl (Or.inl ⟨_, c6, ?_⟩)
    refine hk78 _ ?_
    refine evL_take 5 fun K79 hk79 => ?_
    refine sh1 F1 ?_
    refine sd ?_
    refine hk79 _ ?_
    refine sh1 F1 ?_
    refine hk76 _ ?_
    refine hn75 (some ([2, 21, 139, 140, 144, 145], none)) _ ?_
    refine ev_seq_k fun K80 hn80 hr80 he80 => ?_
    refine ev_ops_k fun K81 hk81 => ?_
    refine evL_take 1 fun K82 hk82 => ?_
    refine sh1 F1 ?_
    refine Or.inl (Or.inl ⟨_, ok_mNew0, ?_⟩)
    refine hk82 _ ?_
    refine evL_take 5 fun K83 hk83 => ?_
    refine sh1 F1 ?_
    refine sd ?_
    refine hk83 _ ?_
    refine sh1 F1 ?_
    refine hk81 _ ?_
    refine hn80 (some ([2, 21, 23, 139, 140, 144, 145], none)) _ ?_
    refine ev_seq_k fun K84 hn84 hr84 he84 => ?_
    refine ev_ops_k fun K85 hk85 => ?_
    refine evL_take 2 fun K86 hk86 => ?_
    refine sh1 F1 ?_
    refine sd ?_
    refine hk86 _ ?_
    refine evL_take 2 fun K87 hk87 => ?_
    refine sh1 F1 ?_
    refine sd ?_
    refine hk87 _ ?_
    refine evL_take 3 fun K88 hk88 => ?_
    refine sh1 F1 ?_
    refine sd ?_
    refine hk88 _ ?_
    refine evL_take 1 fun K89 hk89 => ?_
    refine sh1 F1 ?_
    refine hk89 _ ?_
    refine evL_take 1 fun K90 hk90 => ?_
    refine sh1 F1 ?_
    refine Or.inl ⟨_, eqsh_bool true true, ?_⟩
    refine hk90 _ ?_
    refine evL_take 3 fun K91 hk91 => ?_
    refine sh1 F1 ?_
    refine sd ?_
    refine hk91 _ ?_
    refine sh1 F1 ?_
    refine hk85 _ ?_
    refine hn84 (some ([6], none)) _ ?_
    exact sf1 F1
end Go.Proofs.Ytfcjkchpldfamaa
