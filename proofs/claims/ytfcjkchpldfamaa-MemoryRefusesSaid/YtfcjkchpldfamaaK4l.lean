/-
  MemoryRefuses: the walk.
-/
import Derived.Test.YtfcjkchpldfamaaK4i
import Derived.Test.YtfcjkchpldfamaaScMemoryRefuses
namespace Go.Proofs.Ytfcjkchpldfamaa
set_option linter.unusedSimpArgs false
set_option linter.unusedVariables false
open Go.RowKit Go.Maps

theorem do_wrong {M : MemM} {d : DoV} (h1 : 1 ≤ d.act.op) (h6 : d.act.op ≤ 6) (hw : wrongM M d.thread d.act.place ≠ 0) : do4M M d = (M, zWord, false, wrongM M d.thread d.act.place) := by
  have e0 : (wrongM M d.thread d.act.place == 0) = false := by simpa using hw
  have e1 : ∀ q c, loadM M d.thread d.act.place q c = (M, zWord, wrongM M d.thread d.act.place) := fun q c => by unfold loadM; rw [if_neg hw]
  have e2 : ∀ w q, mstoreM M d.thread d.act.place w q = (M, wrongM M d.thread d.act.place) := fun w q => by unfold mstoreM; rw [if_neg hw]
  have e3 : look1M M d.thread d.act.place = (M, zWord, wrongM M d.thread d.act.place) := by unfold look1M; rw [if_neg hw]
  have e4 : mswapM M d.thread d.act.place d.act.old d.act.new = (M, zWord, false, wrongM M d.thread d.act.place) := by
    unfold mswapM; rw [if_neg (fun h => hw h.1), e3]
  unfold do4M
  simp only [e1, e2, e3, e4, e0]
  split
  · rfl
  · split
    · rfl
    · split
      · rfl
      · split
        · rfl
        · omega
theorem do_right {M : MemM} {d : DoV} (ht : ThrB M d.thread) (ha : PlcB M d.act.place) : (do4M M d).2.2.2 = 0 := by
  have hw := wrong_zero.2 ⟨ht, ha⟩
  unfold do4M
  split
  · unfold loadM; rw [if_pos hw]
  · split
    · unfold mstoreM; rw [if_pos hw]
    · split
      · unfold look1M; rw [if_pos hw]
      · split
        · unfold mswapM
          split
          · rfl
          · rw [look_word ht ha]
        · rfl
theorem do_none {M : MemM} {d : DoV} (h : d.act.op < 1 ∨ 6 < d.act.op) : do4M M d = (M, zWord, false, 0) := by
  unfold do4M
  rw [if_neg (by omega), if_neg (by omega), if_neg (by omega), if_neg (by omega)]
theorem begun_many {k : Int} {ws : List WordV} {ds : List DoV} (h : (begunM k ws ds).2 = true) : ws.length ≠ 0 ∧ ¬ 4096 < ws.length := by
  unfold begunM at h
  split at h
  · rename_i h1
    refine ⟨fun h0 => ?_, by omega⟩
    have := h1.1
    unfold mnewM at this
    split at this
    · simp at this
    · simp [h0] at this
  · simp at h
theorem ok_mNew0 : Ok 25 [sI 1, .v (.slice none 0 0)] (.tup [eMem ⟨[], []⟩, sI 8]) := by
  refine ok_of_tr Try.func25 tr_mNew rfl ?_
  unfold evFn sc_mNew rv_mNew
  refine ev_seq_k fun K1 hn1 hr1 he1 => ?_
  refine ev_ops_c ([.slot 1 none 3]) fun K2 hk2 => ?_
  refine sh0 ?_
  refine hk2 _ ?_
  refine hn1 (some ([0, 1, 4, 13, 14], none)) _ ?_
  refine ev_seq_k fun K3 hn3 hr3 he3 => ?_
  refine ev_block_k fun K4 hn4 hx4 hr4 he4 => ?_
  refine ev_seq_k fun K5 hn5 hr5 he5 => ?_
  refine ev_ops_k fun K6 hk6 => ?_
  refine evL_take 2 fun K7 hk7 => ?_
  refine sh0 ?_
  refine sd ?_
  refine hk7 _ ?_
  refine evL_take 3 fun K8 hk8 => ?_
  refine sh0 ?_
  refine sd ?_
  refine hk8 _ ?_
  refine sh0 ?_
  refine hk6 _ ?_
  refine hn5 (some ([0, 1, 4, 9], none)) _ ?_
  refine ev_cond_k rfl (fun hx => absurd hx (by simp at hx)) (fun hc0 => ?_)
  clear hc0
  refine ev_seq_k fun K9 hn9 hr9 he9 => ?_
  refine ev_ops_k fun K10 hk10 => ?_
  refine evL_take 3 fun K11 hk11 => ?_
  refine sh0 ?_
  refine sd ?_
  refine hk11 _ ?_
  refine sh0 ?_
  refine hk10 _ ?_
  refine hn9 (some ([0, 1, 4, 17], none)) _ ?_
  refine ev_cond_k rfl (fun hc1 => ?_) (fun hx => absurd hx (by simp at hx))
  clear hc1
  refine ev_seq_k fun K12 hn12 hr12 he12 => ?_
  refine ev_ops_k fun K13 hk13 => ?_
  refine evL_take 2 fun K14 hk14 => ?_
  refine sh0 ?_
  refine sd ?_
  refine hk14 _ ?_
  refine sh0 ?_
  refine hk13 _ ?_
  refine hn12 (some ([4, 5], none)) _ ?_
  refine hr4 _ ?_
  refine hr3 _ ?_
  exact sf0

theorem refuse_tail (th : Int) (ws : List WordV) (hw1 : ws.length ≠ 0) (hw2 : ¬ 4096 < ws.length) : (¬ 1 ≤ th ∧ (mnewM th ws).2 = 3) ∨ (1 ≤ th ∧ ¬ th ≤ 8 ∧ (mnewM th ws).2 = 3) ∨ (1 ≤ th ∧ th ≤ 8 ∧ (mnewM th ws).2 = 0) := by
  unfold mnewM
  by_cases a : th < 1
  · rw [if_pos (.inl a)]; exact .inl ⟨by omega, rfl⟩
  · by_cases b : 8 < th
    · rw [if_pos (.inr b)]; exact .inr (.inl ⟨by omega, by omega, rfl⟩)
    · rw [if_neg (by omega), if_neg hw1, if_neg hw2]; exact .inr (.inr ⟨by omega, by omega, rfl⟩)
end Go.Proofs.Ytfcjkchpldfamaa
