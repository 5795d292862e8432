/-
  MemoryRefuses: the walk, joined.
-/
import Derived.Test.YtfcjkchpldfamaaK4l1
import Derived.Test.YtfcjkchpldfamaaK4l2
import Derived.Test.YtfcjkchpldfamaaK4l3
import Derived.Test.YtfcjkchpldfamaaK4l4
import Derived.Test.YtfcjkchpldfamaaK4l5
namespace Go.Proofs.Ytfcjkchpldfamaa
set_option linter.unusedSimpArgs false
set_option linter.unusedVariables false
open Go.RowKit Go.Maps

set_option maxHeartbeats 8000000 in
theorem ok_MemoryRefuses (k : Int) (g : Nat) (ws : List WordV) (g2 : Nat) (ds : List DoV) (d : DoV) (th : Int) : Ok 8 [.agg (cCase k g ws g2 ds), .agg (eDo d), sI th] (sB true) := by
  have c1 := ok_l4begun k g ws g2 ds
  have hM := memOk_begun k ws ds
  have hw0 := fun h => begun_many (k := k) (ws := ws) (ds := ds) h
  generalize begunM k ws ds = R at c1 hM hw0
  obtain ⟨M, b⟩ := R
  simp only at c1 hM hw0
  cases b
  · refine ok_of_tr Try.func8 tr_MemoryRefuses rfl ?_
    unfold evFn sc_MemoryRefuses rv_MemoryRefuses
    refine ev_seq_k fun K1 hn1 hr1 he1 => ?_
    refine ev_ops_k fun K2 hk2 => ?_
    refine sh0 ?_
    refine hk2 _ ?_
    refine hn1 (some ([2, 3, 4, 50, 51, 52, 53, 56, 57, 58, 59, 62, 63, 64, 65, 66, 73, 74, 75, 76, 85, 86, 87, 88, 89, 90, 91, 92, 93, 110, 111, 112, 113, 114, 115, 116, 117, 118, 119, 120, 121, 139, 140, 144, 145], none)) _ ?_
    refine ev_seq_k fun K3 hn3 hr3 he3 => ?_
    refine ev_seq_k fun K4 hn4 hr4 he4 => ?_
    refine ev_ops_k fun K5 hk5 => ?_
    refine evL_take 1 fun K6 hk6 => ?_
    refine sh0 ?_
    refine Or.inl (Or.inl ⟨_, ok_l4awake, ?_⟩)
    refine hk6 _ ?_
    refine sh0 ?_
    refine hk5 _ ?_
    refine hn4 (some ([2, 3, 4, 25, 50, 51, 52, 53, 56, 57, 58, 59, 62, 63, 64, 65, 66, 73, 74, 75, 76, 85, 86, 87, 88, 89, 90, 91, 92, 93, 110, 111, 112, 113, 114, 115, 116, 117, 118, 119, 120, 121, 139, 140, 144, 145], none)) _ ?_
    refine ev_cond_k rfl (fun hx => absurd hx (by simp at hx)) (fun hc0 => ?_)
    clear hc0
    refine hn3 (some ([2, 3, 4, 50, 51, 52, 53, 56, 57, 58, 59, 62, 63, 64, 65, 66, 73, 74, 75, 76, 85, 86, 87, 88, 89, 90, 91, 92, 93, 110, 111, 112, 113, 114, 115, 116, 117, 118, 119, 120, 121, 139, 140, 144, 145], none)) _ ?_
    refine ev_seq_k fun K7 hn7 hr7 he7 => ?_
    refine ev_ops_k fun K8 hk8 => ?_
    refine evL_take 1 fun K9 hk9 => ?_
    refine sh0 ?_
    refine sd ?_
    refine hk9 _ ?_
    refine evL_take 1 fun K10 hk10 => ?_
    refine sh0 ?_
    refine Or.inl (Or.inl ⟨_, c1, ?_⟩)
    refine hk10 _ ?_
    refine evL_take 5 fun K11 hk11 => ?_
    refine sh0 ?_
    refine sd ?_
    refine hk11 _ ?_
    refine sh0 ?_
    refine hk8 _ ?_
    refine hn7 (some ([2, 3, 4, 7, 8, 50, 51, 52, 53, 56, 57, 58, 59, 62, 63, 64, 65, 66, 73, 74, 75, 76, 85, 86, 87, 88, 89, 90, 91, 92, 93, 110, 111, 112, 113, 114, 115, 116, 117, 118, 119, 120, 121, 139, 140, 144, 145], none)) _ ?_
    refine ev_seq_k fun K12 hn12 hr12 he12 => ?_
    refine ev_seq_k fun K13 hn13 hr13 he13 => ?_
    refine ev_ops_k fun K14 hk14 => ?_
    refine sh0 ?_
    refine hk14 _ ?_
    refine hn13 (some ([2, 3, 4, 7, 32, 50, 51, 52, 53, 56, 57, 58, 59, 62, 63, 64, 65, 66, 73, 74, 75, 76, 85, 86, 87, 88, 89, 90, 91, 92, 93, 110, 111, 112, 113, 114, 115, 116, 117, 118, 119, 120, 121, 139, 140, 144, 145], none)) _ ?_
    refine ev_cond_k rfl (fun hc1 => ?_) (fun hx => absurd hx (by simp at hx))
    clear hc1
    refine ev_seq_k fun K15 hn15 hr15 he15 => ?_
    refine ev_ops_k fun K16 hk16 => ?_
    refine sh0 ?_
    refine hk16 _ ?_
    refine hn15 (some ([6], none)) _ ?_
    refine hr12 _ ?_
    exact sf0
  obtain ⟨hw1, hw2⟩ := hw0 rfl
  by_cases t1 : d.thread < 1
  · exact refuses1 k g ws g2 ds d th c1 hM hw1 hw2 t1
  by_cases t2 : (M.views.length : Int) < d.thread
  · exact refuses2 k g ws g2 ds d th c1 hM hw1 hw2 t1 t2
  by_cases t3 : d.act.place < 0
  · exact refuses3 k g ws g2 ds d th c1 hM hw1 hw2 t1 t2 t3
  by_cases t4 : (M.places.length : Int) ≤ d.act.place
  · exact refuses4 k g ws g2 ds d th c1 hM hw1 hw2 t1 t2 t3 t4
  · exact refuses5 k g ws g2 ds d th c1 hM hw1 hw2 t1 t2 t3 t4
end Go.Proofs.Ytfcjkchpldfamaa
