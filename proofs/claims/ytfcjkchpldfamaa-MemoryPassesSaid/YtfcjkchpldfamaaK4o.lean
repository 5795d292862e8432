/-
  MemoryPasses: the walk.
-/
import Derived.Test.YtfcjkchpldfamaaK4n
import Derived.Test.YtfcjkchpldfamaaScMemoryPasses
namespace Go.Proofs.Ytfcjkchpldfamaa
set_option linter.unusedSimpArgs false
set_option linter.unusedVariables false
open Go.RowKit Go.Maps

theorem pass_tail {M0 M : MemM} {w : WordV} {x : MsgV} {n : Nat} (hM : MemOk M n) (hn : n ≤ 1000) (hP : Pass M0 M w x) (hv : 3 ≤ M0.views.length) (hp : 3 ≤ M0.places.length) (hk : hasM (histM M0 2) keyW = false) (hs : ((histM M0 0).length : Int) ≤ vGet (seenM M 2) 0) (b thr c : Int) :
    ∃ (L9 : MemM) (lw : WordV) (e10 : Bool) (M4 M5 : MemM) (got : WordV) (M6 : MemM) (there : WordV) (e13 : Int),
      Ok 32 [eMem M, sI 2, sI 0, sB false, sI b] (.tup [eMem L9, .agg (eWord w), sI 0]) ∧
      Ok 33 [eMem M, sI 2] (.tup [.agg (eWord lw), sB e10]) ∧
      Ok 34 [eMem M, sI 2, sI 2, .agg (eWord lw), .agg (eWord keyW)] (.tup [eMem M4, .agg (eWord lw), sB true, sI 0]) ∧
      Ok 32 [eMem M4, sI 3, sI 2, sB true, sI thr] (.tup [eMem M5, .agg (eWord got), sI 0]) ∧
      Ok 32 [eMem M5, sI 3, sI 0, sB false, sI c] (.tup [eMem M6, .agg (eWord there), sI e13]) ∧
      (weq got keyW = true → there = w) := by
  obtain ⟨r1, r2, r3, r4⟩ := pass_on hM hP hv hp hk hs b thr c
  have h4 : MemOk (pm4 M) (n + 1) := memOk_adds (memOk_look hM 2 2) 2 2 keyW true
  have h5 := memOk_load h4 3 2 true thr
  have c9 := ok_mLoad M 2 0 false b hM (by omega)
  rw [r1] at c9
  have c10 := ok_mLast M 2 hM (by omega)
  have c11 := ok_mSwap M 2 2 (lastWM M 2) keyW hM (by omega)
  rw [r2] at c11
  have c12 := ok_mLoad (pm4 M) 3 2 true thr h4 (by omega)
  rw [r3] at c12
  have c13 := ok_mLoad (loadM (pm4 M) 3 2 true thr).1 3 0 false c h5 (by omega)
  exact ⟨_, _, _, _, _, _, _, _, _, c9, c10, c11, c12, c13, fun h => by rw [r4 (weq_iff.1 h)]⟩

structure PassV where
  word : WordV
  thr : Int
  a : Int
  b : Int
  c : Int
  look : Bool
abbrev ePass (x : PassV) : List Sh := [sI x.word.val, sU x.word.ver, sU x.word.ref, sI x.thr, sI x.a, sI x.b, sI x.c, sB x.look]
set_option maxHeartbeats 8000000 in
theorem ok_MemoryPasses (k : Int) (g : Nat) (ws : List WordV) (g2 : Nat) (ds : List DoV) (x : PassV) : Ok 5 [.agg (cCase k g ws g2 ds), .agg (ePass x)] (sB true) := by
  refine ok_of_tr Try.func5 tr_MemoryPasses rfl ?_
  obtain ⟨w, thr, a, b, c, look⟩ := x
  have c1 := ok_l4begun k g ws g2 ds
  have hM := memOk_begun k ws ds
  generalize begunM k ws ds = R at c1 hM
  obtain ⟨M, ok⟩ := R
  simp only at c1 hM
  have hcase : (ok = false) ∨ (ok = true ∧ (M.views.length : Int) < 3) ∨ (ok = true ∧ ¬ (M.views.length : Int) < 3 ∧ (M.places.length : Int) < 3) ∨ (ok = true ∧ ¬ (M.views.length : Int) < 3 ∧ ¬ (M.places.length : Int) < 3) := by
    cases ok
    · exact .inl rfl
    · simp only [Bool.true_eq_false, false_or, true_and]; omega
  rcases hcase with hb | ⟨hb, h1⟩ | ⟨hb, h1, h2⟩ | ⟨hb, h1, h2⟩
  · skip
    unfold evFn sc_MemoryPasses rv_MemoryPasses
    have F1 := @hb
    refine ev_seq_k fun K1 hn1 hr1 he1 => ?_
    refine ev_ops_k fun K2 hk2 => ?_
    refine sh1 F1 ?_
    refine hk2 _ ?_
    refine hn1 (some ([2, 3, 42, 43, 46, 47, 55, 56, 57, 92, 93, 96, 97, 98, 99, 100, 101, 102, 151, 152, 153, 154, 155, 156, 157, 158, 159], none)) _ ?_
    refine ev_seq_k fun K3 hn3 hr3 he3 => ?_
    refine ev_seq_k fun K4 hn4 hr4 he4 => ?_
    refine ev_ops_k fun K5 hk5 => ?_
    refine evL_take 1 fun K6 hk6 => ?_
    refine sh1 F1 ?_
    refine Or.inl (Or.inl ⟨_, ok_l4awake, ?_⟩)
    refine hk6 _ ?_
    refine sh1 F1 ?_
    refine hk5 _ ?_
    refine hn4 (some ([2, 3, 28, 42, 43, 46, 47, 55, 56, 57, 92, 93, 96, 97, 98, 99, 100, 101, 102, 151, 152, 153, 154, 155, 156, 157, 158, 159], none)) _ ?_
    refine ev_cond_k rfl (fun hx => absurd hx (by simp at hx)) (fun hc0 => ?_)
    clear hc0
    refine hn3 (some ([2, 3, 42, 43, 46, 47, 55, 56, 57, 92, 93, 96, 97, 98, 99, 100, 101, 102, 151, 152, 153, 154, 155, 156, 157, 158, 159], none)) _ ?_
    refine ev_seq_k fun K7 hn7 hr7 he7 => ?_
    refine ev_ops_k fun K8 hk8 => ?_
    refine evL_take 1 fun K9 hk9 => ?_
    refine sh1 F1 ?_
    refine sd ?_
    refine hk9 _ ?_
    refine evL_take 1 fun K10 hk10 => ?_
    refine sh1 F1 ?_
    refine Or.inl (Or.inl ⟨_, c1, ?_⟩)
    refine hk10 _ ?_
    refine evL_take 5 fun K11 hk11 => ?_
    refine sh1 F1 ?_
    refine sd ?_
    refine hk11 _ ?_
    refine sh1 F1 ?_
    refine hk8 _ ?_
    refine hn7 (some ([3, 5, 6, 42, 43, 46, 47, 55, 56, 57, 92, 93, 96, 97, 98, 99, 100, 101, 102, 151, 152, 153, 154, 155, 156, 157, 158, 159], none)) _ ?_
    refine ev_seq_k fun K12 hn12 hr12 he12 => ?_
    refine ev_ops_k fun K13 hk13 => ?_
    refine evL_take 1 fun K14 hk14 => ?_
    refine sh1 F1 ?_
    refine sd ?_
    refine hk14 _ ?_
    refine evL_take 1 fun K15 hk15 => ?_
    refine sh1 F1 ?_
    refine Or.inl (Or.inl ⟨_, ok_mSize M, ?_⟩)
    refine hk15 _ ?_
    refine sh1 F1 ?_
    refine hk13 _ ?_
    refine hn12 (some ([3, 5, 6, 7, 8, 42, 43, 46, 47, 55, 56, 57, 92, 93, 96, 97, 98, 99, 100, 101, 102, 151, 152, 153, 154, 155, 156, 157, 158, 159], none)) _ ?_
    refine ev_seq_k fun K16 hn16 hr16 he16 => ?_
    refine ev_seq_k fun K17 hn17 hr17 he17 => ?_
    refine ev_ops_k fun K18 hk18 => ?_
    refine evL_take 5 fun K19 hk19 => ?_
    refine sh1 F1 ?_
    refine sd ?_
    refine hk19 _ ?_
    refine evL_take 4 fun K20 hk20 => ?_
    refine sh1 F1 ?_
    refine sd ?_
    refine hk20 _ ?_
    refine sh1 F1 ?_
    refine hk18 _ ?_
    refine hn17 (some ([3, 5, 48, 55, 56, 57, 92, 93, 96, 97, 98, 99, 100, 101, 102, 151, 152, 153, 154, 155, 156, 157, 158, 159], none)) _ ?_
    refine ev_cond_k rfl (fun hc1 => ?_) (fun hx => absurd hx (by simp at hx))
    clear hc1
    refine ev_seq_k fun K21 hn21 hr21 he21 => ?_
    refine ev_ops_k fun K22 hk22 => ?_
    refine sh1 F1 ?_
    refine hk22 _ ?_
    refine hn21 (some ([4], none)) _ ?_
    refine hr16 _ ?_
    exact sf1 F1
  · skip
    unfold evFn sc_MemoryPasses rv_MemoryPasses
    have F1 := And.intro @hb @h1
    refine ev_seq_k fun K1 hn1 hr1 he1 => ?_
    refine ev_ops_k fun K2 hk2 => ?_
    refine sh1 F1 ?_
    refine hk2 _ ?_
    refine hn1 (some ([2, 3, 42, 43, 46, 47, 55, 56, 57, 92, 93, 96, 97, 98, 99, 100, 101, 102, 151, 152, 153, 154, 155, 156, 157, 158, 159], none)) _ ?_
    refine ev_seq_k fun K3 hn3 hr3 he3 => ?_
    refine ev_seq_k fun K4 hn4 hr4 he4 => ?_
    refine ev_ops_k fun K5 hk5 => ?_
    refine evL_take 1 fun K6 hk6 => ?_
    refine sh1 F1 ?_
    refine Or.inl (Or.inl ⟨_, ok_l4awake, ?_⟩)
    refine hk6 _ ?_
    refine sh1 F1 ?_
    refine hk5 _ ?_
    refine hn4 (some ([2, 3, 28, 42, 43, 46, 47, 55, 56, 57, 92, 93, 96, 97, 98, 99, 100, 101, 102, 151, 152, 153, 154, 155, 156, 157, 158, 159], none)) _ ?_
    refine ev_cond_k rfl (fun hx => absurd hx (by simp at hx)) (fun hc0 => ?_)
    clear hc0
    refine hn3 (some ([2, 3, 42, 43, 46, 47, 55, 56, 57, 92, 93, 96, 97, 98, 99, 100, 101, 102, 151, 152, 153, 154, 155, 156, 157, 158, 159], none)) _ ?_
    refine ev_seq_k fun K7 hn7 hr7 he7 => ?_
    refine ev_ops_k fun K8 hk8 => ?_
    refine evL_take 1 fun K9 hk9 => ?_
    refine sh1 F1 ?_
    refine sd ?_
    refine hk9 _ ?_
    refine evL_take 1 fun K10 hk10 => ?_
    refine sh1 F1 ?_
    refine Or.inl (Or.inl ⟨_, c1, ?_⟩)
    refine hk10 _ ?_
    refine evL_take 5 fun K11 hk11 => ?_
    refine sh1 F1 ?_
    refine sd ?_
    refine hk11 _ ?_
    refine sh1 F1 ?_
    refine hk8 _ ?_
    refine hn7 (some ([3, 5, 6, 42, 43, 46, 47, 55, 56, 57, 92, 93, 96, 97, 98, 99, 100, 101, 102, 151, 152, 153, 154, 155, 156, 157, 158, 159], none)) _ ?_
    refine ev_seq_k fun K12 hn12 hr12 he12 => ?_
    refine ev_ops_k fun K13 hk13 => ?_
    refine evL_take 1 fun K14 hk14 => ?_
    refine sh1 F1 ?_
    refine sd ?_
    refine hk14 _ ?_
    refine evL_take 1 fun K15 hk15 => ?_
    refine sh1 F1 ?_
    refine Or.inl (Or.inl ⟨_, ok_mSize M, ?_⟩)
    refine hk15 _ ?_
    refine sh1 F1 ?_
    refine hk13 _ ?_
    refine hn12 (some ([3, 5, 6, 7, 8, 42, 43, 46, 47, 55, 56, 57, 92, 93, 96, 97, 98, 99, 100, 101, 102, 151, 152, 153, 154, 155, 156, 157, 158, 159], none)) _ ?_
    refine ev_seq_k fun K16 hn16 hr16 he16 => ?_
    refine ev_seq_k fun K17 hn17 hr17 he17 => ?_
    refine ev_ops_k fun K18 hk18 => ?_
    refine evL_take 5 fun K19 hk19 => ?_
    refine sh1 F1 ?_
    refine sd ?_
    refine hk19 _ ?_
    refine evL_take 4 fun K20 hk20 => ?_
    refine sh1 F1 ?_
    refine sd ?_
    refine hk20 _ ?_
    refine sh1 F1 ?_
    refine hk18 _ ?_
    refine hn17 (some ([3, 5, 48, 55, 56, 57, 92, 93, 96, 97, 98, 99, 100, 101, 102, 151, 152, 153, 154, 155, 156, 157, 158, 159], none)) _ ?_
    refine ev_cond_k rfl (fun hc1 => ?_) (fun hx => absurd hx (by simp at hx))
    clear hc1
    refine ev_seq_k fun K21 hn21 hr21 he21 => ?_
    refine ev_ops_k fun K22 hk22 => ?_
    refine sh1 F1 ?_
    refine hk22 _ ?_
    refine hn21 (some ([4], none)) _ ?_
    refine hr16 _ ?_
    exact sf1 F1
  · skip
    unfold evFn sc_MemoryPasses rv_MemoryPasses
    have F1 := And.intro @hb (And.intro @h1 @h2)
    refine ev_seq_k fun K1 hn1 hr1 he1 => ?_
    refine ev_ops_k fun K2 hk2 => ?_
    refine sh1 F1 ?_
    refine hk2 _ ?_
    refine hn1 (some ([2, 3, 42, 43, 46, 47, 55, 56, 57, 92, 93, 96, 97, 98, 99, 100, 101, 102, 151, 152, 153, 154, 155, 156, 157, 158, 159], none)) _ ?_
    refine ev_seq_k fun K3 hn3 hr3 he3 => ?_
    refine ev_seq_k fun K4 hn4 hr4 he4 => ?_
    refine ev_ops_k fun K5 hk5 => ?_
    refine evL_take 1 fun K6 hk6 => ?_
    refine sh1 F1 ?_
    refine Or.inl (Or.inl ⟨_, ok_l4awake, ?_⟩)
    refine hk6 _ ?_
    refine sh1 F1 ?_
    refine hk5 _ ?_
    refine hn4 (some ([2, 3, 28, 42, 43, 46, 47, 55, 56, 57, 92, 93, 96, 97, 98, 99, 100, 101, 102, 151, 152, 153, 154, 155, 156, 157, 158, 159], none)) _ ?_
    refine ev_cond_k rfl (fun hx => absurd hx (by simp at hx)) (fun hc0 => ?_)
    clear hc0
    refine hn3 (some ([2, 3, 42, 43, 46, 47, 55, 56, 57, 92, 93, 96, 97, 98, 99, 100, 101, 102, 151, 152, 153, 154, 155, 156, 157, 158, 159], none)) _ ?_
    refine ev_seq_k fun K7 hn7 hr7 he7 => ?_
    refine ev_ops_k fun K8 hk8 => ?_
    refine evL_take 1 fun K9 hk9 => ?_
    refine sh1 F1 ?_
    refine sd ?_
    refine hk9 _ ?_
    refine evL_take 1 fun K10 hk10 => ?_
    refine sh1 F1 ?_
    refine Or.inl (Or.inl ⟨_, c1, ?_⟩)
    refine hk10 _ ?_
    refine evL_take 5 fun K11 hk11 => ?_
    refine sh1 F1 ?_
    refine sd ?_
    refine hk11 _ ?_
    refine sh1 F1 ?_
    refine hk8 _ ?_
    refine hn7 (some ([3, 5, 6, 42, 43, 46, 47, 55, 56, 57, 92, 93, 96, 97, 98, 99, 100, 101, 102, 151, 152, 153, 154, 155, 156, 157, 158, 159], none)) _ ?_
    refine ev_seq_k fun K12 hn12 hr12 he12 => ?_
    refine ev_ops_k fun K13 hk13 => ?_
    refine evL_take 1 fun K14 hk14 => ?_
    refine sh1 F1 ?_
    refine sd ?_
    refine hk14 _ ?_
    refine evL_take 1 fun K15 hk15 => ?_
    refine sh1 F1 ?_
    refine Or.inl (Or.inl ⟨_, ok_mSize M, ?_⟩)
    refine hk15 _ ?_
    refine sh1 F1 ?_
    refine hk13 _ ?_
    refine hn12 (some ([3, 5, 6, 7, 8, 42, 43, 46, 47, 55, 56, 57, 92, 93, 96, 97, 98, 99, 100, 101, 102, 151, 152, 153, 154, 155, 156, 157, 158, 159], none)) _ ?_
    refine ev_seq_k fun K16 hn16 hr16 he16 => ?_
    refine ev_seq_k fun K17 hn17 hr17 he17 => ?_
    refine ev_ops_k fun K18 hk18 => ?_
    refine evL_take 5 fun K19 hk19 => ?_
    refine sh1 F1 ?_
    refine sd ?_
    refine hk19 _ ?_
    refine evL_take 4 fun K20 hk20 => ?_
    refine sh1 F1 ?_
    refine sd ?_
    refine hk20 _ ?_
    refine sh1 F1 ?_
    refine hk18 _ ?_
    refine hn17 (some ([3, 5, 48, 55, 56, 57, 92, 93, 96, 97, 98, 99, 100, 101, 102, 151, 152, 153, 154, 155, 156, 157, 158, 159], none)) _ ?_
    refine ev_cond_k rfl (fun hc1 => ?_) (fun hx => absurd hx (by simp at hx))
    clear hc1
    refine ev_seq_k fun K21 hn21 hr21 he21 => ?_
    refine ev_ops_k fun K22 hk22 => ?_
    refine sh1 F1 ?_
    refine hk22 _ ?_
    refine hn21 (some ([4], none)) _ ?_
    refine hr16 _ ?_
    exact sf1 F1
  have hv : 3 ≤ M.views.length := by omega
  have hp : 3 ≤ M.places.length := by omega
  have c3 := ok_l4has M 1 flagW hM (by omega)
  have c4 := ok_l4has M 2 keyW hM (by omega)
  cases hf : hasM (histM M 1) flagW
  case true =>
    rw [hf] at c3
    unfold evFn sc_MemoryPasses rv_MemoryPasses
    have F1 := And.intro @hb (And.intro @h1 @h2)
    refine ev_seq_k fun K1 hn1 hr1 he1 => ?_
    refine ev_ops_k fun K2 hk2 => ?_
    refine sh1 F1 ?_
    refine hk2 _ ?_
    refine hn1 (some ([2, 3, 42, 43, 46, 47, 55, 56, 57, 92, 93, 96, 97, 98, 99, 100, 101, 102, 151, 152, 153, 154, 155, 156, 157, 158, 159], none)) _ ?_
    refine ev_seq_k fun K3 hn3 hr3 he3 => ?_
    refine ev_seq_k fun K4 hn4 hr4 he4 => ?_
    refine ev_ops_k fun K5 hk5 => ?_
    refine evL_take 1 fun K6 hk6 => ?_
    refine sh1 F1 ?_
    refine Or.inl (Or.inl ⟨_, ok_l4awake, ?_⟩)
    refine hk6 _ ?_
    refine sh1 F1 ?_
    refine hk5 _ ?_
    refine hn4 (some ([2, 3, 28, 42, 43, 46, 47, 55, 56, 57, 92, 93, 96, 97, 98, 99, 100, 101, 102, 151, 152, 153, 154, 155, 156, 157, 158, 159], none)) _ ?_
    refine ev_cond_k rfl (fun hx => absurd hx (by simp at hx)) (fun hc0 => ?_)
    clear hc0
    refine hn3 (some ([2, 3, 42, 43, 46, 47, 55, 56, 57, 92, 93, 96, 97, 98, 99, 100, 101, 102, 151, 152, 153, 154, 155, 156, 157, 158, 159], none)) _ ?_
    refine ev_seq_k fun K7 hn7 hr7 he7 => ?_
    refine ev_ops_k fun K8 hk8 => ?_
    refine evL_take 1 fun K9 hk9 => ?_
    refine sh1 F1 ?_
    refine sd ?_
    refine hk9 _ ?_
    refine evL_take 1 fun K10 hk10 => ?_
    refine sh1 F1 ?_
    refine Or.inl (Or.inl ⟨_, c1, ?_⟩)
    refine hk10 _ ?_
    refine evL_take 5 fun K11 hk11 => ?_
    refine sh1 F1 ?_
    refine sd ?_
    refine hk11 _ ?_
    refine sh1 F1 ?_
    refine hk8 _ ?_
    refine hn7 (some ([3, 5, 6, 42, 43, 46, 47, 55, 56, 57, 92, 93, 96, 97, 98, 99, 100, 101, 102, 151, 152, 153, 154, 155, 156, 157, 158, 159], none)) _ ?_
    refine ev_seq_k fun K12 hn12 hr12 he12 => ?_
    refine ev_ops_k fun K13 hk13 => ?_
    refine evL_take 1 fun K14 hk14 => ?_
    refine sh1 F1 ?_
    refine sd ?_
    refine hk14 _ ?_
    refine evL_take 1 fun K15 hk15 => ?_
    refine sh1 F1 ?_
    refine Or.inl (Or.inl ⟨_, ok_mSize M, ?_⟩)
    refine hk15 _ ?_
    refine sh1 F1 ?_
    refine hk13 _ ?_
    refine hn12 (some ([3, 5, 6, 7, 8, 42, 43, 46, 47, 55, 56, 57, 92, 93, 96, 97, 98, 99, 100, 101, 102, 151, 152, 153, 154, 155, 156, 157, 158, 159], none)) _ ?_
    refine ev_seq_k fun K16 hn16 hr16 he16 => ?_
    refine ev_seq_k fun K17 hn17 hr17 he17 => ?_
    refine ev_ops_k fun K18 hk18 => ?_
    refine evL_take 5 fun K19 hk19 => ?_
    refine sh1 F1 ?_
    refine sd ?_
    refine hk19 _ ?_
    refine evL_take 4 fun K20 hk20 => ?_
    refine sh1 F1 ?_
    refine sd ?_
    refine hk20 _ ?_
    refine sh1 F1 ?_
    refine hk18 _ ?_
    refine hn17 (some ([3, 5, 48, 55, 56, 57, 92, 93, 96, 97, 98, 99, 100, 101, 102, 151, 152, 153, 154, 155, 156, 157, 158, 159], none)) _ ?_
    refine ev_cond_k rfl (fun hx => absurd hx (by simp at hx)) (fun hc1 => ?_)
    clear hc1
    refine hn16 (some ([3, 5, 55, 56, 57, 92, 93, 96, 97, 98, 99, 100, 101, 102, 151, 152, 153, 154, 155, 156, 157, 158, 159], none)) _ ?_
    refine ev_seq_k fun K21 hn21 hr21 he21 => ?_
    refine ev_ops_k fun K22 hk22 => ?_
    refine evL_take 5 fun K23 hk23 => ?_
    refine sh1 F1 ?_
    refine sd ?_
    refine hk23 _ ?_
    refine sh1 F1 ?_
    refine sd ?_
    refine hk22 _ ?_
    refine hn21 (some ([3, 5, 9, 10, 55, 56, 57, 92, 93, 96, 97, 98, 99, 100, 101, 102, 151, 152, 153, 154, 155, 156, 157, 158, 159], none)) _ ?_
    refine ev_seq_k fun K24 hn24 hr24 he24 => ?_
    refine ev_seq_k fun K25 hn25 hr25 he25 => ?_
    refine ev_ops_k fun K26 hk26 => ?_
    refine evL_take 1 fun K27 hk27 => ?_
    refine sh1 F1 ?_
    refine sd ?_
    refine hk27 _ ?_
    refine evL_take 1 fun K28 hk28 => ?_
    refine sh1 F1 ?_
    refine sd ?_
    refine hk28 _ ?_
    refine evL_take 1 fun K29 hk29 => ?_
    refine sh1 F1 ?_
    refine Or.inl (Or.inl ⟨_, c3, ?_⟩)
    refine hk29 _ ?_
    refine evL_take 2 fun K30 hk30 => ?_
    refine sh1 F1 ?_
    refine sd ?_
    refine hk30 _ ?_
    refine evL_take 1 fun K31 hk31 => ?_
    refine sh1 F1 ?_
    refine sd ?_
    refine hk31 _ ?_
    refine evL_take 1 fun K32 hk32 => ?_
    refine sh1 F1 ?_
    skip
    refine hk32 _ ?_
    refine sh1 F1 ?_
    refine hk26 _ ?_
    refine hn25 (some ([3, 5, 9, 10, 58, 92, 93, 96, 97, 98, 99, 100, 101, 102, 151, 152, 153, 154, 155, 156, 157, 158, 159], none)) _ ?_
    refine ev_cond_k rfl (fun hc2 => ?_) (fun hx => absurd hx (by simp at hx))
    clear hc2
    refine ev_seq_k fun K33 hn33 hr33 he33 => ?_
    refine ev_ops_k fun K34 hk34 => ?_
    refine sh1 F1 ?_
    refine hk34 _ ?_
    refine hn33 (some ([4], none)) _ ?_
    refine hr24 _ ?_
    exact sf1 F1
  rw [hf] at c3
  cases hk : hasM (histM M 2) keyW
  case true =>
    rw [hk] at c4
    unfold evFn sc_MemoryPasses rv_MemoryPasses
    have F1 := And.intro @hb (And.intro @h1 @h2)
    refine ev_seq_k fun K1 hn1 hr1 he1 => ?_
    refine ev_ops_k fun K2 hk2 => ?_
    refine sh1 F1 ?_
    refine hk2 _ ?_
    refine hn1 (some ([2, 3, 42, 43, 46, 47, 55, 56, 57, 92, 93, 96, 97, 98, 99, 100, 101, 102, 151, 152, 153, 154, 155, 156, 157, 158, 159], none)) _ ?_
    refine ev_seq_k fun K3 hn3 hr3 he3 => ?_
    refine ev_seq_k fun K4 hn4 hr4 he4 => ?_
    refine ev_ops_k fun K5 hk5 => ?_
    refine evL_take 1 fun K6 hk6 => ?_
    refine sh1 F1 ?_
    refine Or.inl (Or.inl ⟨_, ok_l4awake, ?_⟩)
    refine hk6 _ ?_
    refine sh1 F1 ?_
    refine hk5 _ ?_
    refine hn4 (some ([2, 3, 28, 42, 43, 46, 47, 55, 56, 57, 92, 93, 96, 97, 98, 99, 100, 101, 102, 151, 152, 153, 154, 155, 156, 157, 158, 159], none)) _ ?_
    refine ev_cond_k rfl (fun hx => absurd hx (by simp at hx)) (fun hc0 => ?_)
    clear hc0
    refine hn3 (some ([2, 3, 42, 43, 46, 47, 55, 56, 57, 92, 93, 96, 97, 98, 99, 100, 101, 102, 151, 152, 153, 154, 155, 156, 157, 158, 159], none)) _ ?_
    refine ev_seq_k fun K7 hn7 hr7 he7 => ?_
    refine ev_ops_k fun K8 hk8 => ?_
    refine evL_take 1 fun K9 hk9 => ?_
    refine sh1 F1 ?_
    refine sd ?_
    refine hk9 _ ?_
    refine evL_take 1 fun K10 hk10 => ?_
    refine sh1 F1 ?_
    refine Or.inl (Or.inl ⟨_, c1, ?_⟩)
    refine hk10 _ ?_
    refine evL_take 5 fun K11 hk11 => ?_
    refine sh1 F1 ?_
    refine sd ?_
    refine hk11 _ ?_
    refine sh1 F1 ?_
    refine hk8 _ ?_
    refine hn7 (some ([3, 5, 6, 42, 43, 46, 47, 55, 56, 57, 92, 93, 96, 97, 98, 99, 100, 101, 102, 151, 152, 153, 154, 155, 156, 157, 158, 159], none)) _ ?_
    refine ev_seq_k fun K12 hn12 hr12 he12 => ?_
    refine ev_ops_k fun K13 hk13 => ?_
    refine evL_take 1 fun K14 hk14 => ?_
    refine sh1 F1 ?_
    refine sd ?_
    refine hk14 _ ?_
    refine evL_take 1 fun K15 hk15 => ?_
    refine sh1 F1 ?_
    refine Or.inl (Or.inl ⟨_, ok_mSize M, ?_⟩)
    refine hk15 _ ?_
    refine sh1 F1 ?_
    refine hk13 _ ?_
    refine hn12 (some ([3, 5, 6, 7, 8, 42, 43, 46, 47, 55, 56, 57, 92, 93, 96, 97, 98, 99, 100, 101, 102, 151, 152, 153, 154, 155, 156, 157, 158, 159], none)) _ ?_
    refine ev_seq_k fun K16 hn16 hr16 he16 => ?_
    refine ev_seq_k fun K17 hn17 hr17 he17 => ?_
    refine ev_ops_k fun K18 hk18 => ?_
    refine evL_take 5 fun K19 hk19 => ?_
    refine sh1 F1 ?_
    refine sd ?_
    refine hk19 _ ?_
    refine evL_take 4 fun K20 hk20 => ?_
    refine sh1 F1 ?_
    refine sd ?_
    refine hk20 _ ?_
    refine sh1 F1 ?_
    refine hk18 _ ?_
    refine hn17 (some ([3, 5, 48, 55, 56, 57, 92, 93, 96, 97, 98, 99, 100, 101, 102, 151, 152, 153, 154, 155, 156, 157, 158, 159], none)) _ ?_
    refine ev_cond_k rfl (fun hx => absurd hx (by simp at hx)) (fun hc1 => ?_)
    clear hc1
    refine hn16 (some ([3, 5, 55, 56, 57, 92, 93, 96, 97, 98, 99, 100, 101, 102, 151, 152, 153, 154, 155, 156, 157, 158, 159], none)) _ ?_
    refine ev_seq_k fun K21 hn21 hr21 he21 => ?_
    refine ev_ops_k fun K22 hk22 => ?_
    refine evL_take 5 fun K23 hk23 => ?_
    refine sh1 F1 ?_
    refine sd ?_
    refine hk23 _ ?_
    refine sh1 F1 ?_
    refine sd ?_
    refine hk22 _ ?_
    refine hn21 (some ([3, 5, 9, 10, 55, 56, 57, 92, 93, 96, 97, 98, 99, 100, 101, 102, 151, 152, 153, 154, 155, 156, 157, 158, 159], none)) _ ?_
    refine ev_seq_k fun K24 hn24 hr24 he24 => ?_
    refine ev_seq_k fun K25 hn25 hr25 he25 => ?_
    refine ev_ops_k fun K26 hk26 => ?_
    refine evL_take 1 fun K27 hk27 => ?_
    refine sh1 F1 ?_
    refine sd ?_
    refine hk27 _ ?_
    refine evL_take 1 fun K28 hk28 => ?_
    refine sh1 F1 ?_
    refine sd ?_
    refine hk28 _ ?_
    refine evL_take 1 fun K29 hk29 => ?_
    refine sh1 F1 ?_
    refine Or.inl (Or.inl ⟨_, c3, ?_⟩)
    refine hk29 _ ?_
    refine evL_take 2 fun K30 hk30 => ?_
    refine sh1 F1 ?_
    refine sd ?_
    refine hk30 _ ?_
    refine evL_take 1 fun K31 hk31 => ?_
    refine sh1 F1 ?_
    refine sd ?_
    refine hk31 _ ?_
    refine evL_take 1 fun K32 hk32 => ?_
    refine sh1 F1 ?_
    refine Or.inl (Or.inl ⟨_, c4, ?_⟩)
    refine hk32 _ ?_
    refine sh1 F1 ?_
    refine hk26 _ ?_
    refine hn25 (some ([3, 5, 9, 10, 58, 92, 93, 96, 97, 98, 99, 100, 101, 102, 151, 152, 153, 154, 155, 156, 157, 158, 159], none)) _ ?_
    refine ev_cond_k rfl (fun hc2 => ?_) (fun hx => absurd hx (by simp at hx))
    clear hc2
    refine ev_seq_k fun K33 hn33 hr33 he33 => ?_
    refine ev_ops_k fun K34 hk34 => ?_
    refine sh1 F1 ?_
    refine hk34 _ ?_
    refine hn33 (some ([4], none)) _ ?_
    refine hr24 _ ?_
    exact sf1 F1
  rw [hk] at c4
  have t1 : ThrB M 1 := ⟨by omega, by omega⟩
  have a0 : PlcB M 0 := ⟨by omega, by omega⟩
  have s1 := size_adds M 1 0 w false
  have t1' : ThrB (pm1 M w) 1 := ⟨by omega, by unfold pm1; omega⟩
  have a1' : PlcB (pm1 M w) 1 := ⟨by omega, by unfold pm1; omega⟩
  have hM1 : MemOk (pm1 M w) 42 := memOk_adds hM 1 0 w false
  have hM2 : MemOk (pm2 M w) 43 := memOk_adds hM1 1 1 flagW true
  have c5 := ok_mStore M 1 0 w false hM (by omega)
  rw [store_eq t1 a0] at c5
  change Ok _ _ (.tup [eMem (pm1 M w), sI 0]) at c5
  have c6 := ok_mStore (pm1 M w) 1 1 flagW true hM1 (by omega)
  rw [store_eq t1' a1'] at c6
  change Ok _ _ (.tup [eMem (pm2 M w), sI 0]) at c6
  obtain ⟨x, hP⟩ := pass_two hM hv hp w
  clear hM1 t1' a1' s1
  generalize pm2 M w = M2 at hM2 c6 hP
  generalize pm1 M w = M1 at c5 c6
  cases look
  · obtain ⟨p1, p2, p3⟩ := pass_load hM2 hP hv hp hf a
    have c8 := ok_mLoad M2 2 1 true a hM2 (by omega)
    rw [p1] at c8
    have hM3 := memOk_load hM2 2 1 true a
    generalize loadM M2 2 1 true a = Q at c8 p2 p3 hM3
    obtain ⟨M3, fo, er⟩ := Q
    simp only at c8 p2 p3 hM3
    cases hfo : weq fo flagW
    · have hE1 : EqSh 29 (.agg (eWord fo)) (.agg (eWord flagW)) false := by rw [← hfo]; exact eqsh_word _ _
      unfold evFn sc_MemoryPasses rv_MemoryPasses
      have F1 := And.intro @hb (And.intro @h1 @h2)
      refine ev_seq_k fun K1 hn1 hr1 he1 => ?_
      refine ev_ops_k fun K2 hk2 => ?_
      refine sh1 F1 ?_
      refine hk2 _ ?_
      refine hn1 (some ([2, 3, 42, 43, 46, 47, 55, 56, 57, 92, 93, 96, 97, 98, 99, 100, 101, 102, 151, 152, 153, 154, 155, 156, 157, 158, 159], none)) _ ?_
      refine ev_seq_k fun K3 hn3 hr3 he3 => ?_
      refine ev_seq_k fun K4 hn4 hr4 he4 => ?_
      refine ev_ops_k fun K5 hk5 => ?_
      refine evL_take 1 fun K6 hk6 => ?_
      refine sh1 F1 ?_
      refine Or.inl (Or.inl ⟨_, ok_l4awake, ?_⟩)
      refine hk6 _ ?_
      refine sh1 F1 ?_
      refine hk5 _ ?_
      refine hn4 (some ([2, 3, 28, 42, 43, 46, 47, 55, 56, 57, 92, 93, 96, 97, 98, 99, 100, 101, 102, 151, 152, 153, 154, 155, 156, 157, 158, 159], none)) _ ?_
      refine ev_cond_k rfl (fun hx => absurd hx (by simp at hx)) (fun hc0 => ?_)
      clear hc0
      refine hn3 (some ([2, 3, 42, 43, 46, 47, 55, 56, 57, 92, 93, 96, 97, 98, 99, 100, 101, 102, 151, 152, 153, 154, 155, 156, 157, 158, 159], none)) _ ?_
      refine ev_seq_k fun K7 hn7 hr7 he7 => ?_
      refine ev_ops_k fun K8 hk8 => ?_
      refine evL_take 1 fun K9 hk9 => ?_
      refine sh1 F1 ?_
      refine sd ?_
      refine hk9 _ ?_
      refine evL_take 1 fun K10 hk10 => ?_
      refine sh1 F1 ?_
      refine Or.inl (Or.inl ⟨_, c1, ?_⟩)
      refine hk10 _ ?_
      refine evL_take 5 fun K11 hk11 => ?_
      refine sh1 F1 ?_
      refine sd ?_
      refine hk11 _ ?_
      refine sh1 F1 ?_
      refine hk8 _ ?_
      refine hn7 (some ([3, 5, 6, 42, 43, 46, 47, 55, 56, 57, 92, 93, 96, 97, 98, 99, 100, 101, 102, 151, 152, 153, 154, 155, 156, 157, 158, 159], none)) _ ?_
      refine ev_seq_k fun K12 hn12 hr12 he12 => ?_
      refine ev_ops_k fun K13 hk13 => ?_
      refine evL_take 1 fun K14 hk14 => ?_
      refine sh1 F1 ?_
      refine sd ?_
      refine hk14 _ ?_
      refine evL_take 1 fun K15 hk15 => ?_
      refine sh1 F1 ?_
      refine Or.inl (Or.inl ⟨_, ok_mSize M, ?_⟩)
      refine hk15 _ ?_
      refine sh1 F1 ?_
      refine hk13 _ ?_
      refine hn12 (some ([3, 5, 6, 7, 8, 42, 43, 46, 47, 55, 56, 57, 92, 93, 96, 97, 98, 99, 100, 101, 102, 151, 152, 153, 154, 155, 156, 157, 158, 159], none)) _ ?_
      refine ev_seq_k fun K16 hn16 hr16 he16 => ?_
      refine ev_seq_k fun K17 hn17 hr17 he17 => ?_
      refine ev_ops_k fun K18 hk18 => ?_
      refine evL_take 5 fun K19 hk19 => ?_
      refine sh1 F1 ?_
      refine sd ?_
      refine hk19 _ ?_
      refine evL_take 4 fun K20 hk20 => ?_
      refine sh1 F1 ?_
      refine sd ?_
      refine hk20 _ ?_
      refine sh1 F1 ?_
      refine hk18 _ ?_
      refine hn17 (some ([3, 5, 48, 55, 56, 57, 92, 93, 96, 97, 98, 99, 100, 101, 102, 151, 152, 153, 154, 155, 156, 157, 158, 159], none)) _ ?_
      refine ev_cond_k rfl (fun hx => absurd hx (by simp at hx)) (fun hc1 => ?_)
      clear hc1
      refine hn16 (some ([3, 5, 55, 56, 57, 92, 93, 96, 97, 98, 99, 100, 101, 102, 151, 152, 153, 154, 155, 156, 157, 158, 159], none)) _ ?_
      refine ev_seq_k fun K21 hn21 hr21 he21 => ?_
      refine ev_ops_k fun K22 hk22 => ?_
      refine evL_take 5 fun K23 hk23 => ?_
      refine sh1 F1 ?_
      refine sd ?_
      refine hk23 _ ?_
      refine sh1 F1 ?_
      refine sd ?_
      refine hk22 _ ?_
      refine hn21 (some ([3, 5, 9, 10, 55, 56, 57, 92, 93, 96, 97, 98, 99, 100, 101, 102, 151, 152, 153, 154, 155, 156, 157, 158, 159], none)) _ ?_
      refine ev_seq_k fun K24 hn24 hr24 he24 => ?_
      refine ev_seq_k fun K25 hn25 hr25 he25 => ?_
      refine ev_ops_k fun K26 hk26 => ?_
      refine evL_take 1 fun K27 hk27 => ?_
      refine sh1 F1 ?_
      refine sd ?_
      refine hk27 _ ?_
      refine evL_take 1 fun K28 hk28 => ?_
      refine sh1 F1 ?_
      refine sd ?_
      refine hk28 _ ?_
      refine evL_take 1 fun K29 hk29 => ?_
      refine sh1 F1 ?_
      refine Or.inl (Or.inl ⟨_, c3, ?_⟩)
      refine hk29 _ ?_
      refine evL_take 2 fun K30 hk30 => ?_
      refine sh1 F1 ?_
      refine sd ?_
      refine hk30 _ ?_
      refine evL_take 1 fun K31 hk31 => ?_
      refine sh1 F1 ?_
      refine sd ?_
      refine hk31 _ ?_
      refine evL_take 1 fun K32 hk32 => ?_
      refine sh1 F1 ?_
      refine Or.inl (Or.inl ⟨_, c4, ?_⟩)
      refine hk32 _ ?_
      refine sh1 F1 ?_
      refine hk26 _ ?_
      refine hn25 (some ([3, 5, 9, 10, 58, 92, 93, 96, 97, 98, 99, 100, 101, 102, 151, 152, 153, 154, 155, 156, 157, 158, 159], none)) _ ?_
      refine ev_cond_k rfl (fun hx => absurd hx (by simp at hx)) (fun hc2 => ?_)
      clear hc2
      refine hn24 (some ([3, 5, 9, 10, 92, 93, 96, 97, 98, 99, 100, 101, 102, 151, 152, 153, 154, 155, 156, 157, 158, 159], none)) _ ?_
      refine ev_seq_k fun K33 hn33 hr33 he33 => ?_
      refine ev_ops_k fun K34 hk34 => ?_
      refine evL_take 1 fun K35 hk35 => ?_
      refine sh1 F1 ?_
      refine sd ?_
      refine hk35 _ ?_
      refine evL_take 2 fun K36 hk36 => ?_
      refine sh1 F1 ?_
      refine sd ?_
      refine hk36 _ ?_
      refine evL_take 1 fun K37 hk37 => ?_
      refine sh1 F1 ?_
      refine Or.inl (Or.inl ⟨_, c5, ?_⟩)
      refine hk37 _ ?_
      refine evL_take 4 fun K38 hk38 => ?_
      refine sh1 F1 ?_
      refine sd ?_
      refine hk38 _ ?_
      refine sh1 F1 ?_
      refine hk34 _ ?_
      refine hn33 (some ([3, 5, 9, 10, 11, 92, 93, 96, 97, 98, 99, 100, 101, 102, 151, 152, 153, 154, 155, 156, 157, 158, 159], none)) _ ?_
      refine ev_seq_k fun K39 hn39 hr39 he39 => ?_
      refine ev_ops_k fun K40 hk40 => ?_
      refine evL_take 1 fun K41 hk41 => ?_
      refine sh1 F1 ?_
      refine sd ?_
      refine hk41 _ ?_
      refine evL_take 1 fun K42 hk42 => ?_
      refine sh1 F1 ?_
      refine sd ?_
      refine hk42 _ ?_
      refine evL_take 1 fun K43 hk43 => ?_
      refine sh1 F1 ?_
      refine Or.inl (Or.inl ⟨_, c6, ?_⟩)
      refine hk43 _ ?_
      refine evL_take 4 fun K44 hk44 => ?_
      refine sh1 F1 ?_
      refine sd ?_
      refine hk44 _ ?_
      refine sh1 F1 ?_
      refine hk40 _ ?_
      refine hn39 (some ([3, 5, 9, 10, 11, 12, 92, 93, 96, 97, 98, 99, 100, 101, 102, 151, 152, 153, 154, 155, 156, 157, 158, 159], none)) _ ?_
      refine ev_seq_k fun K45 hn45 hr45 he45 => ?_
      refine ev_ops_k fun K46 hk46 => ?_
      refine sh1 F1 ?_
      refine sd ?_
      refine hk46 _ ?_
      refine hn45 (some ([3, 5, 9, 10, 11, 12, 13, 92, 93, 96, 97, 98, 99, 100, 101, 102, 151, 152, 153, 154, 155, 156, 157, 158, 159], none)) _ ?_
      refine ev_seq_k fun K47 hn47 hr47 he47 => ?_
      refine ev_seq_k fun K48 hn48 hr48 he48 => ?_
      refine ev_ops_k fun K49 hk49 => ?_
      refine sh1 F1 ?_
      refine sd ?_
      refine hk49 _ ?_
      refine hn48 (some ([3, 5, 9, 10, 11, 12, 13, 74, 92, 93, 96, 97, 98, 99, 100, 101, 102, 151, 152, 153, 154, 155, 156, 157, 158, 159], none)) _ ?_
      refine ev_cond_k rfl (fun hx => absurd hx (by simp at hx)) (fun hc3 => ?_)
      clear hc3
      refine ev_ops_k fun K50 hk50 => ?_
      refine evL_take 1 fun K51 hk51 => ?_
      refine sh1 F1 ?_
      refine sd ?_
      refine hk51 _ ?_
      refine evL_take 2 fun K52 hk52 => ?_
      refine sh1 F1 ?_
      refine sd ?_
      refine hk52 _ ?_
      refine evL_take 1 fun K53 hk53 => ?_
      refine sh1 F1 ?_
      refine Or.inl (Or.inl ⟨_, c8, ?_⟩)
      refine hk53 _ ?_
      refine evL_take 5 fun K54 hk54 => ?_
      refine sh1 F1 ?_
      refine sd ?_
      refine hk54 _ ?_
      refine sh1 F1 ?_
      refine sd ?_
      refine hk50 _ ?_
      refine hn47 (some ([3, 5, 9, 10, 11, 12, 13, 92, 93, 96, 97, 98, 99, 100, 101, 102, 151, 152, 153, 154, 155, 156, 157, 158, 159], none)) _ ?_
      refine ev_seq_k fun K55 hn55 hr55 he55 => ?_
      refine ev_seq_k fun K56 hn56 hr56 he56 => ?_
      refine ev_ops_k fun K57 hk57 => ?_
      refine evL_take 2 fun K58 hk58 => ?_
      refine sh1 F1 ?_
      refine sd ?_
      refine hk58 _ ?_
      refine evL_take 3 fun K59 hk59 => ?_
      refine sh1 F1 ?_
      refine sd ?_
      refine hk59 _ ?_
      refine evL_take 4 fun K60 hk60 => ?_
      refine sh1 F1 ?_
      refine sd ?_
      refine hk60 _ ?_
      refine evL_take 2 fun K61 hk61 => ?_
      refine sh1 F1 ?_
      refine sd ?_
      refine hk61 _ ?_
      refine evL_take 1 fun K62 hk62 => ?_
      refine sh1 F1 ?_
      refine sd ?_
      refine hk62 _ ?_
      refine evL_take 1 fun K63 hk63 => ?_
      refine sh1 F1 ?_
      skip
      refine hk63 _ ?_
      refine sh1 F1 ?_
      refine hk57 _ ?_
      refine hn56 (some ([3, 5, 9, 10, 13, 103, 151, 152, 153, 154, 155, 156, 157, 158, 159], none)) _ ?_
      refine ev_cond_k rfl (fun hx => absurd hx (by simp at hx)) (fun hc4 => ?_)
      clear hc4
      refine hn55 (some ([3, 5, 9, 10, 13, 151, 152, 153, 154, 155, 156, 157, 158, 159], none)) _ ?_
      refine ev_seq_k fun K64 hn64 hr64 he64 => ?_
      refine ev_seq_k fun K65 hn65 hr65 he65 => ?_
      refine ev_ops_k fun K66 hk66 => ?_
      refine evL_take 1 fun K67 hk67 => ?_
      refine sh1 F1 ?_
      refine sd ?_
      refine hk67 _ ?_
      refine evL_take 1 fun K68 hk68 => ?_
      refine sh1 F1 ?_
      refine sd ?_
      refine hk68 _ ?_
      refine sh1 F1 ?_
      refine Or.inl ⟨_, hE1, ?_⟩
      refine hk66 _ ?_
      refine hn65 (some ([3, 5, 10, 106, 151, 152, 153, 154, 155, 156, 157, 158, 159], none)) _ ?_
      refine ev_cond_k rfl (fun hc5 => ?_) (fun hx => absurd hx (by simp at hx))
      clear hc5
      refine ev_seq_k fun K69 hn69 hr69 he69 => ?_
      refine ev_ops_k fun K70 hk70 => ?_
      refine sh1 F1 ?_
      refine hk70 _ ?_
      refine hn69 (some ([4], none)) _ ?_
      refine hr64 _ ?_
      exact sf1 F1
    obtain rfl := weq_iff.1 hfo
    obtain ⟨L9, lw, e10, M4, M5, got, M6, there, e13, c9, c10, c11, c12, c13, c14⟩ := pass_tail hM3 (by omega) p2 hv hp hk (p3 rfl) b thr c
    cases hg : weq got keyW
    · have hE3 : EqSh 29 (.agg (eWord got)) (.agg (eWord keyW)) false := by rw [← hg]; exact eqsh_word _ _
      unfold evFn sc_MemoryPasses rv_MemoryPasses
      have F1 := And.intro @hb (And.intro @h1 @h2)
      refine ev_seq_k fun K1 hn1 hr1 he1 => ?_
      refine ev_ops_k fun K2 hk2 => ?_
      refine sh1 F1 ?_
      refine hk2 _ ?_
      refine hn1 (some ([2, 3, 42, 43, 46, 47, 55, 56, 57, 92, 93, 96, 97, 98, 99, 100, 101, 102, 151, 152, 153, 154, 155, 156, 157, 158, 159], none)) _ ?_
      refine ev_seq_k fun K3 hn3 hr3 he3 => ?_
      refine ev_seq_k fun K4 hn4 hr4 he4 => ?_
      refine ev_ops_k fun K5 hk5 => ?_
      refine evL_take 1 fun K6 hk6 => ?_
      refine sh1 F1 ?_
      refine Or.inl (Or.inl ⟨_, ok_l4awake, ?_⟩)
      refine hk6 _ ?_
      refine sh1 F1 ?_
      refine hk5 _ ?_
      refine hn4 (some ([2, 3, 28, 42, 43, 46, 47, 55, 56, 57, 92, 93, 96, 97, 98, 99, 100, 101, 102, 151, 152, 153, 154, 155, 156, 157, 158, 159], none)) _ ?_
      refine ev_cond_k rfl (fun hx => absurd hx (by simp at hx)) (fun hc0 => ?_)
      clear hc0
      refine hn3 (some ([2, 3, 42, 43, 46, 47, 55, 56, 57, 92, 93, 96, 97, 98, 99, 100, 101, 102, 151, 152, 153, 154, 155, 156, 157, 158, 159], none)) _ ?_
      refine ev_seq_k fun K7 hn7 hr7 he7 => ?_
      refine ev_ops_k fun K8 hk8 => ?_
      refine evL_take 1 fun K9 hk9 => ?_
      refine sh1 F1 ?_
      refine sd ?_
      refine hk9 _ ?_
      refine evL_take 1 fun K10 hk10 => ?_
      refine sh1 F1 ?_
      refine Or.inl (Or.inl ⟨_, c1, ?_⟩)
      refine hk10 _ ?_
      refine evL_take 5 fun K11 hk11 => ?_
      refine sh1 F1 ?_
      refine sd ?_
      refine hk11 _ ?_
      refine sh1 F1 ?_
      refine hk8 _ ?_
      refine hn7 (some ([3, 5, 6, 42, 43, 46, 47, 55, 56, 57, 92, 93, 96, 97, 98, 99, 100, 101, 102, 151, 152, 153, 154, 155, 156, 157, 158, 159], none)) _ ?_
      refine ev_seq_k fun K12 hn12 hr12 he12 => ?_
      refine ev_ops_k fun K13 hk13 => ?_
      refine evL_take 1 fun K14 hk14 => ?_
      refine sh1 F1 ?_
      refine sd ?_
      refine hk14 _ ?_
      refine evL_take 1 fun K15 hk15 => ?_
      refine sh1 F1 ?_
      refine Or.inl (Or.inl ⟨_, ok_mSize M, ?_⟩)
      refine hk15 _ ?_
      refine sh1 F1 ?_
      refine hk13 _ ?_
      refine hn12 (some ([3, 5, 6, 7, 8, 42, 43, 46, 47, 55, 56, 57, 92, 93, 96, 97, 98, 99, 100, 101, 102, 151, 152, 153, 154, 155, 156, 157, 158, 159], none)) _ ?_
      refine ev_seq_k fun K16 hn16 hr16 he16 => ?_
      refine ev_seq_k fun K17 hn17 hr17 he17 => ?_
      refine ev_ops_k fun K18 hk18 => ?_
      refine evL_take 5 fun K19 hk19 => ?_
      refine sh1 F1 ?_
      refine sd ?_
      refine hk19 _ ?_
      refine evL_take 4 fun K20 hk20 => ?_
      refine sh1 F1 ?_
      refine sd ?_
      refine hk20 _ ?_
      refine sh1 F1 ?_
      refine hk18 _ ?_
      refine hn17 (some ([3, 5, 48, 55, 56, 57, 92, 93, 96, 97, 98, 99, 100, 101, 102, 151, 152, 153, 154, 155, 156, 157, 158, 159], none)) _ ?_
      refine ev_cond_k rfl (fun hx => absurd hx (by simp at hx)) (fun hc1 => ?_)
      clear hc1
      refine hn16 (some ([3, 5, 55, 56, 57, 92, 93, 96, 97, 98, 99, 100, 101, 102, 151, 152, 153, 154, 155, 156, 157, 158, 159], none)) _ ?_
      refine ev_seq_k fun K21 hn21 hr21 he21 => ?_
      refine ev_ops_k fun K22 hk22 => ?_
      refine evL_take 5 fun K23 hk23 => ?_
      refine sh1 F1 ?_
      refine sd ?_
      refine hk23 _ ?_
      refine sh1 F1 ?_
      refine sd ?_
      refine hk22 _ ?_
      refine hn21 (some ([3, 5, 9, 10, 55, 56, 57, 92, 93, 96, 97, 98, 99, 100, 101, 102, 151, 152, 153, 154, 155, 156, 157, 158, 159], none)) _ ?_
      refine ev_seq_k fun K24 hn24 hr24 he24 => ?_
      refine ev_seq_k fun K25 hn25 hr25 he25 => ?_
      refine ev_ops_k fun K26 hk26 => ?_
      refine evL_take 1 fun K27 hk27 => ?_
      refine sh1 F1 ?_
      refine sd ?_
      refine hk27 _ ?_
      refine evL_take 1 fun K28 hk28 => ?_
      refine sh1 F1 ?_
      refine sd ?_
      refine hk28 _ ?_
      refine evL_take 1 fun K29 hk29 => ?_
      refine sh1 F1 ?_
      refine Or.inl (Or.inl ⟨_, c3, ?_⟩)
      refine hk29 _ ?_
      refine evL_take 2 fun K30 hk30 => ?_
      refine sh1 F1 ?_
      refine sd ?_
      refine hk30 _ ?_
      refine evL_take 1 fun K31 hk31 => ?_
      refine sh1 F1 ?_
      refine sd ?_
      refine hk31 _ ?_
      refine evL_take 1 fun K32 hk32 => ?_
      refine sh1 F1 ?_
      refine Or.inl (Or.inl ⟨_, c4, ?_⟩)
      refine hk32 _ ?_
      refine sh1 F1 ?_
      refine hk26 _ ?_
      refine hn25 (some ([3, 5, 9, 10, 58, 92, 93, 96, 97, 98, 99, 100, 101, 102, 151, 152, 153, 154, 155, 156, 157, 158, 159], none)) _ ?_
      refine ev_cond_k rfl (fun hx => absurd hx (by simp at hx)) (fun hc2 => ?_)
      clear hc2
      refine hn24 (some ([3, 5, 9, 10, 92, 93, 96, 97, 98, 99, 100, 101, 102, 151, 152, 153, 154, 155, 156, 157, 158, 159], none)) _ ?_
      refine ev_seq_k fun K33 hn33 hr33 he33 => ?_
      refine ev_ops_k fun K34 hk34 => ?_
      refine evL_take 1 fun K35 hk35 => ?_
      refine sh1 F1 ?_
      refine sd ?_
      refine hk35 _ ?_
      refine evL_take 2 fun K36 hk36 => ?_
      refine sh1 F1 ?_
      refine sd ?_
      refine hk36 _ ?_
      refine evL_take 1 fun K37 hk37 => ?_
      refine sh1 F1 ?_
      refine Or.inl (Or.inl ⟨_, c5, ?_⟩)
      refine hk37 _ ?_
      refine evL_take 4 fun K38 hk38 => ?_
      refine sh1 F1 ?_
      refine sd ?_
      refine hk38 _ ?_
      refine sh1 F1 ?_
      refine hk34 _ ?_
      refine hn33 (some ([3, 5, 9, 10, 11, 92, 93, 96, 97, 98, 99, 100, 101, 102, 151, 152, 153, 154, 155, 156, 157, 158, 159], none)) _ ?_
      refine ev_seq_k fun K39 hn39 hr39 he39 => ?_
      refine ev_ops_k fun K40 hk40 => ?_
      refine evL_take 1 fun K41 hk41 => ?_
      refine sh1 F1 ?_
      refine sd ?_
      refine hk41 _ ?_
      refine evL_take 1 fun K42 hk42 => ?_
      refine sh1 F1 ?_
      refine sd ?_
      refine hk42 _ ?_
      refine evL_take 1 fun K43 hk43 => ?_
      refine sh1 F1 ?_
      refine Or.inl (Or.inl ⟨_, c6, ?_⟩)
      refine hk43 _ ?_
      refine evL_take 4 fun K44 hk44 => ?_
      refine sh1 F1 ?_
      refine sd ?_
      refine hk44 _ ?_
      refine sh1 F1 ?_
      refine hk40 _ ?_
      refine hn39 (some ([3, 5, 9, 10, 11, 12, 92, 93, 96, 97, 98, 99, 100, 101, 102, 151, 152, 153, 154, 155, 156, 157, 158, 159], none)) _ ?_
      refine ev_seq_k fun K45 hn45 hr45 he45 => ?_
      refine ev_ops_k fun K46 hk46 => ?_
      refine sh1 F1 ?_
      refine sd ?_
      refine hk46 _ ?_
      refine hn45 (some ([3, 5, 9, 10, 11, 12, 13, 92, 93, 96, 97, 98, 99, 100, 101, 102, 151, 152, 153, 154, 155, 156, 157, 158, 159], none)) _ ?_
      refine ev_seq_k fun K47 hn47 hr47 he47 => ?_
      refine ev_seq_k fun K48 hn48 hr48 he48 => ?_
      refine ev_ops_k fun K49 hk49 => ?_
      refine sh1 F1 ?_
      refine sd ?_
      refine hk49 _ ?_
      refine hn48 (some ([3, 5, 9, 10, 11, 12, 13, 74, 92, 93, 96, 97, 98, 99, 100, 101, 102, 151, 152, 153, 154, 155, 156, 157, 158, 159], none)) _ ?_
      refine ev_cond_k rfl (fun hx => absurd hx (by simp at hx)) (fun hc3 => ?_)
      clear hc3
      refine ev_ops_k fun K50 hk50 => ?_
      refine evL_take 1 fun K51 hk51 => ?_
      refine sh1 F1 ?_
      refine sd ?_
      refine hk51 _ ?_
      refine evL_take 2 fun K52 hk52 => ?_
      refine sh1 F1 ?_
      refine sd ?_
      refine hk52 _ ?_
      refine evL_take 1 fun K53 hk53 => ?_
      refine sh1 F1 ?_
      refine Or.inl (Or.inl ⟨_, c8, ?_⟩)
      refine hk53 _ ?_
      refine evL_take 5 fun K54 hk54 => ?_
      refine sh1 F1 ?_
      refine sd ?_
      refine hk54 _ ?_
      refine sh1 F1 ?_
      refine sd ?_
      refine hk50 _ ?_
      refine hn47 (some ([3, 5, 9, 10, 11, 12, 13, 92, 93, 96, 97, 98, 99, 100, 101, 102, 151, 152, 153, 154, 155, 156, 157, 158, 159], none)) _ ?_
      refine ev_seq_k fun K55 hn55 hr55 he55 => ?_
      refine ev_seq_k fun K56 hn56 hr56 he56 => ?_
      refine ev_ops_k fun K57 hk57 => ?_
      refine evL_take 2 fun K58 hk58 => ?_
      refine sh1 F1 ?_
      refine sd ?_
      refine hk58 _ ?_
      refine evL_take 3 fun K59 hk59 => ?_
      refine sh1 F1 ?_
      refine sd ?_
      refine hk59 _ ?_
      refine evL_take 4 fun K60 hk60 => ?_
      refine sh1 F1 ?_
      refine sd ?_
      refine hk60 _ ?_
      refine evL_take 2 fun K61 hk61 => ?_
      refine sh1 F1 ?_
      refine sd ?_
      refine hk61 _ ?_
      refine evL_take 1 fun K62 hk62 => ?_
      refine sh1 F1 ?_
      refine sd ?_
      refine hk62 _ ?_
      refine evL_take 1 fun K63 hk63 => ?_
      refine sh1 F1 ?_
      skip
      refine hk63 _ ?_
      refine sh1 F1 ?_
      refine hk57 _ ?_
      refine hn56 (some ([3, 5, 9, 10, 13, 103, 151, 152, 153, 154, 155, 156, 157, 158, 159], none)) _ ?_
      refine ev_cond_k rfl (fun hx => absurd hx (by simp at hx)) (fun hc4 => ?_)
      clear hc4
      refine hn55 (some ([3, 5, 9, 10, 13, 151, 152, 153, 154, 155, 156, 157, 158, 159], none)) _ ?_
      refine ev_seq_k fun K64 hn64 hr64 he64 => ?_
      refine ev_seq_k fun K65 hn65 hr65 he65 => ?_
      refine ev_ops_k fun K66 hk66 => ?_
      refine evL_take 1 fun K67 hk67 => ?_
      refine sh1 F1 ?_
      refine sd ?_
      refine hk67 _ ?_
      refine evL_take 1 fun K68 hk68 => ?_
      refine sh1 F1 ?_
      refine sd ?_
      refine hk68 _ ?_
      refine sh1 F1 ?_
      refine Or.inl ⟨_, eqsh_word_refl flagW, ?_⟩
      refine hk66 _ ?_
      refine hn65 (some ([3, 5, 10, 106, 151, 152, 153, 154, 155, 156, 157, 158, 159], none)) _ ?_
      refine ev_cond_k rfl (fun hx => absurd hx (by simp at hx)) (fun hc5 => ?_)
      clear hc5
      refine hn64 (some ([3, 5, 10, 151, 152, 153, 154, 155, 156, 157, 158, 159], none)) _ ?_
      refine ev_seq_k fun K69 hn69 hr69 he69 => ?_
      refine ev_ops_k fun K70 hk70 => ?_
      refine evL_take 1 fun K71 hk71 => ?_
      refine sh1 F1 ?_
      refine sd ?_
      refine hk71 _ ?_
      refine evL_take 2 fun K72 hk72 => ?_
      refine sh1 F1 ?_
      refine sd ?_
      refine hk72 _ ?_
      refine evL_take 1 fun K73 hk73 => ?_
      refine sh1 F1 ?_
      refine Or.inl (Or.inl ⟨_, c9, ?_⟩)
      refine hk73 _ ?_
      refine evL_take 7 fun K74 hk74 => ?_
      refine sh1 F1 ?_
      refine sd ?_
      refine hk74 _ ?_
      refine evL_take 1 fun K75 hk75 => ?_
      refine sh1 F1 ?_
      refine sd ?_
      refine hk75 _ ?_
      refine sh1 F1 ?_
      refine hk70 _ ?_
      refine hn69 (some ([3, 5, 10, 15, 151, 152, 153, 154, 155, 156, 157, 158, 159], none)) _ ?_
      refine ev_seq_k fun K76 hn76 hr76 he76 => ?_
      refine ev_seq_k fun K77 hn77 hr77 he77 => ?_
      refine ev_ops_k fun K78 hk78 => ?_
      refine evL_take 1 fun K79 hk79 => ?_
      refine sh1 F1 ?_
      refine sd ?_
      refine hk79 _ ?_
      refine evL_take 2 fun K80 hk80 => ?_
      refine sh1 F1 ?_
      refine sd ?_
      refine hk80 _ ?_
      refine sh1 F1 ?_
      refine Or.inl ⟨_, eqsh_word_refl w, ?_⟩
      refine hk78 _ ?_
      refine hn77 (some ([3, 5, 10, 118, 151, 152, 153, 154, 155, 156, 157, 158, 159], none)) _ ?_
      refine ev_cond_k rfl (fun hx => absurd hx (by simp at hx)) (fun hc6 => ?_)
      clear hc6
      refine hn76 (some ([3, 5, 10, 151, 152, 153, 154, 155, 156, 157, 158, 159], none)) _ ?_
      refine ev_seq_k fun K81 hn81 hr81 he81 => ?_
      refine ev_ops_k fun K82 hk82 => ?_
      refine evL_take 1 fun K83 hk83 => ?_
      refine sh1 F1 ?_
      refine sd ?_
      refine hk83 _ ?_
      refine evL_take 1 fun K84 hk84 => ?_
      refine sh1 F1 ?_
      refine Or.inl (Or.inl ⟨_, c10, ?_⟩)
      refine hk84 _ ?_
      refine evL_take 5 fun K85 hk85 => ?_
      refine sh1 F1 ?_
      refine sd ?_
      refine hk85 _ ?_
      refine sh1 F1 ?_
      refine hk82 _ ?_
      refine hn81 (some ([3, 5, 10, 17, 151, 152, 153, 154, 155, 156, 157, 158, 159], none)) _ ?_
      refine ev_seq_k fun K86 hn86 hr86 he86 => ?_
      refine ev_ops_k fun K87 hk87 => ?_
      refine evL_take 1 fun K88 hk88 => ?_
      refine sh1 F1 ?_
      refine sd ?_
      refine hk88 _ ?_
      refine evL_take 1 fun K89 hk89 => ?_
      refine sh1 F1 ?_
      refine sd ?_
      refine hk89 _ ?_
      refine evL_take 1 fun K90 hk90 => ?_
      refine sh1 F1 ?_
      refine sd ?_
      refine hk90 _ ?_
      refine evL_take 1 fun K91 hk91 => ?_
      refine sh1 F1 ?_
      refine Or.inl (Or.inl ⟨_, c11, ?_⟩)
      refine hk91 _ ?_
      refine evL_take 7 fun K92 hk92 => ?_
      refine sh1 F1 ?_
      refine sd ?_
      refine hk92 _ ?_
      refine evL_take 1 fun K93 hk93 => ?_
      refine sh1 F1 ?_
      refine sd ?_
      refine hk93 _ ?_
      refine sh1 F1 ?_
      refine hk87 _ ?_
      refine hn86 (some ([3, 5, 10, 20, 151, 152, 153, 154, 155, 156, 157, 158, 159], none)) _ ?_
      refine ev_seq_k fun K94 hn94 hr94 he94 => ?_
      refine ev_ops_k fun K95 hk95 => ?_
      refine evL_take 1 fun K96 hk96 => ?_
      refine sh1 F1 ?_
      refine sd ?_
      refine hk96 _ ?_
      refine evL_take 2 fun K97 hk97 => ?_
      refine sh1 F1 ?_
      refine sd ?_
      refine hk97 _ ?_
      refine evL_take 1 fun K98 hk98 => ?_
      refine sh1 F1 ?_
      refine Or.inl (Or.inl ⟨_, c12, ?_⟩)
      refine hk98 _ ?_
      refine evL_take 6 fun K99 hk99 => ?_
      refine sh1 F1 ?_
      refine sd ?_
      refine hk99 _ ?_
      refine evL_take 1 fun K100 hk100 => ?_
      refine sh1 F1 ?_
      refine sd ?_
      refine hk100 _ ?_
      refine sh1 F1 ?_
      refine hk95 _ ?_
      refine hn94 (some ([3, 5, 10, 20, 22, 151, 152, 153, 154, 155, 156, 157, 158, 159], none)) _ ?_
      refine ev_seq_k fun K101 hn101 hr101 he101 => ?_
      refine ev_ops_k fun K102 hk102 => ?_
      refine evL_take 1 fun K103 hk103 => ?_
      refine sh1 F1 ?_
      refine sd ?_
      refine hk103 _ ?_
      refine evL_take 2 fun K104 hk104 => ?_
      refine sh1 F1 ?_
      refine sd ?_
      refine hk104 _ ?_
      refine evL_take 1 fun K105 hk105 => ?_
      refine sh1 F1 ?_
      refine Or.inl (Or.inl ⟨_, c13, ?_⟩)
      refine hk105 _ ?_
      refine evL_take 7 fun K106 hk106 => ?_
      refine sh1 F1 ?_
      refine sd ?_
      refine hk106 _ ?_
      refine evL_take 1 fun K107 hk107 => ?_
      refine sh1 F1 ?_
      refine sd ?_
      refine hk107 _ ?_
      refine sh1 F1 ?_
      refine hk102 _ ?_
      refine hn101 (some ([3, 10, 20, 22, 25, 151, 152, 153, 154, 155, 156, 157, 158, 159], none)) _ ?_
      refine ev_seq_k fun K108 hn108 hr108 he108 => ?_
      refine ev_ops_k fun K109 hk109 => ?_
      refine evL_take 3 fun K110 hk110 => ?_
      refine sh1 F1 ?_
      refine sd ?_
      refine hk110 _ ?_
      refine evL_take 1 fun K111 hk111 => ?_
      refine sh1 F1 ?_
      refine sd ?_
      refine hk111 _ ?_
      refine evL_take 1 fun K112 hk112 => ?_
      refine sh1 F1 ?_
      refine Or.inl ⟨_, hE3, ?_⟩
      refine hk112 _ ?_
      refine evL_take 2 fun K113 hk113 => ?_
      refine sh1 F1 ?_
      refine sd ?_
      refine hk113 _ ?_
      refine evL_take 2 fun K114 hk114 => ?_
      refine sh1 F1 ?_
      refine sd ?_
      refine hk114 _ ?_
      refine evL_take 1 fun K115 hk115 => ?_
      refine sh1 F1 ?_
      skip
      refine hk115 _ ?_
      refine sh1 F1 ?_
      refine hk109 _ ?_
      refine hn108 (some ([4], none)) _ ?_
      exact sf1 F1
    · have hE3 : EqSh 29 (.agg (eWord got)) (.agg (eWord keyW)) true := by rw [← hg]; exact eqsh_word _ _
      obtain rfl := (c14 hg).symm
      unfold evFn sc_MemoryPasses rv_MemoryPasses
      have F1 := And.intro @hb (And.intro @h1 @h2)
      refine ev_seq_k fun K1 hn1 hr1 he1 => ?_
      refine ev_ops_k fun K2 hk2 => ?_
      refine sh1 F1 ?_
      refine hk2 _ ?_
      refine hn1 (some ([2, 3, 42, 43, 46, 47, 55, 56, 57, 92, 93, 96, 97, 98, 99, 100, 101, 102, 151, 152, 153, 154, 155, 156, 157, 158, 159], none)) _ ?_
      refine ev_seq_k fun K3 hn3 hr3 he3 => ?_
      refine ev_seq_k fun K4 hn4 hr4 he4 => ?_
      refine ev_ops_k fun K5 hk5 => ?_
      refine evL_take 1 fun K6 hk6 => ?_
      refine sh1 F1 ?_
      refine Or.inl (Or.inl ⟨_, ok_l4awake, ?_⟩)
      refine hk6 _ ?_
      refine sh1 F1 ?_
      refine hk5 _ ?_
      refine hn4 (some ([2, 3, 28, 42, 43, 46, 47, 55, 56, 57, 92, 93, 96, 97, 98, 99, 100, 101, 102, 151, 152, 153, 154, 155, 156, 157, 158, 159], none)) _ ?_
      refine ev_cond_k rfl (fun hx => absurd hx (by simp at hx)) (fun hc0 => ?_)
      clear hc0
      refine hn3 (some ([2, 3, 42, 43, 46, 47, 55, 56, 57, 92, 93, 96, 97, 98, 99, 100, 101, 102, 151, 152, 153, 154, 155, 156, 157, 158, 159], none)) _ ?_
      refine ev_seq_k fun K7 hn7 hr7 he7 => ?_
      refine ev_ops_k fun K8 hk8 => ?_
      refine evL_take 1 fun K9 hk9 => ?_
      refine sh1 F1 ?_
      refine sd ?_
      refine hk9 _ ?_
      refine evL_take 1 fun K10 hk10 => ?_
      refine sh1 F1 ?_
      refine Or.inl (Or.inl ⟨_, c1, ?_⟩)
      refine hk10 _ ?_
      refine evL_take 5 fun K11 hk11 => ?_
      refine sh1 F1 ?_
      refine sd ?_
      refine hk11 _ ?_
      refine sh1 F1 ?_
      refine hk8 _ ?_
      refine hn7 (some ([3, 5, 6, 42, 43, 46, 47, 55, 56, 57, 92, 93, 96, 97, 98, 99, 100, 101, 102, 151, 152, 153, 154, 155, 156, 157, 158, 159], none)) _ ?_
      refine ev_seq_k fun K12 hn12 hr12 he12 => ?_
      refine ev_ops_k fun K13 hk13 => ?_
      refine evL_take 1 fun K14 hk14 => ?_
      refine sh1 F1 ?_
      refine sd ?_
      refine hk14 _ ?_
      refine evL_take 1 fun K15 hk15 => ?_
      refine sh1 F1 ?_
      refine Or.inl (Or.inl ⟨_, ok_mSize M, ?_⟩)
      refine hk15 _ ?_
      refine sh1 F1 ?_
      refine hk13 _ ?_
      refine hn12 (some ([3, 5, 6, 7, 8, 42, 43, 46, 47, 55, 56, 57, 92, 93, 96, 97, 98, 99, 100, 101, 102, 151, 152, 153, 154, 155, 156, 157, 158, 159], none)) _ ?_
      refine ev_seq_k fun K16 hn16 hr16 he16 => ?_
      refine ev_seq_k fun K17 hn17 hr17 he17 => ?_
      refine ev_ops_k fun K18 hk18 => ?_
      refine evL_take 5 fun K19 hk19 => ?_
      refine sh1 F1 ?_
      refine sd ?_
      refine hk19 _ ?_
      refine evL_take 4 fun K20 hk20 => ?_
      refine sh1 F1 ?_
      refine sd ?_
      refine hk20 _ ?_
      refine sh1 F1 ?_
      refine hk18 _ ?_
      refine hn17 (some ([3, 5, 48, 55, 56, 57, 92, 93, 96, 97, 98, 99, 100, 101, 102, 151, 152, 153, 154, 155, 156, 157, 158, 159], none)) _ ?_
      refine ev_cond_k rfl (fun hx => absurd hx (by simp at hx)) (fun hc1 => ?_)
      clear hc1
      refine hn16 (some ([3, 5, 55, 56, 57, 92, 93, 96, 97, 98, 99, 100, 101, 102, 151, 152, 153, 154, 155, 156, 157, 158, 159], none)) _ ?_
      refine ev_seq_k fun K21 hn21 hr21 he21 => ?_
      refine ev_ops_k fun K22 hk22 => ?_
      refine evL_take 5 fun K23 hk23 => ?_
      refine sh1 F1 ?_
      refine sd ?_
      refine hk23 _ ?_
      refine sh1 F1 ?_
      refine sd ?_
      refine hk22 _ ?_
      refine hn21 (some ([3, 5, 9, 10, 55, 56, 57, 92, 93, 96, 97, 98, 99, 100, 101, 102, 151, 152, 153, 154, 155, 156, 157, 158, 159], none)) _ ?_
      refine ev_seq_k fun K24 hn24 hr24 he24 => ?_
      refine ev_seq_k fun K25 hn25 hr25 he25 => ?_
      refine ev_ops_k fun K26 hk26 => ?_
      refine evL_take 1 fun K27 hk27 => ?_
      refine sh1 F1 ?_
      refine sd ?_
      refine hk27 _ ?_
      refine evL_take 1 fun K28 hk28 => ?_
      refine sh1 F1 ?_
      refine sd ?_
      refine hk28 _ ?_
      refine evL_take 1 fun K29 hk29 => ?_
      refine sh1 F1 ?_
      refine Or.inl (Or.inl ⟨_, c3, ?_⟩)
      refine hk29 _ ?_
      refine evL_take 2 fun K30 hk30 => ?_
      refine sh1 F1 ?_
      refine sd ?_
      refine hk30 _ ?_
      refine evL_take 1 fun K31 hk31 => ?_
      refine sh1 F1 ?_
      refine sd ?_
      refine hk31 _ ?_
      refine evL_take 1 fun K32 hk32 => ?_
      refine sh1 F1 ?_
      refine Or.inl (Or.inl ⟨_, c4, ?_⟩)
      refine hk32 _ ?_
      refine sh1 F1 ?_
      refine hk26 _ ?_
      refine hn25 (some ([3, 5, 9, 10, 58, 92, 93, 96, 97, 98, 99, 100, 101, 102, 151, 152, 153, 154, 155, 156, 157, 158, 159], none)) _ ?_
      refine ev_cond_k rfl (fun hx => absurd hx (by simp at hx)) (fun hc2 => ?_)
      clear hc2
      refine hn24 (some ([3, 5, 9, 10, 92, 93, 96, 97, 98, 99, 100, 101, 102, 151, 152, 153, 154, 155, 156, 157, 158, 159], none)) _ ?_
      refine ev_seq_k fun K33 hn33 hr33 he33 => ?_
      refine ev_ops_k fun K34 hk34 => ?_
      refine evL_take 1 fun K35 hk35 => ?_
      refine sh1 F1 ?_
      refine sd ?_
      refine hk35 _ ?_
      refine evL_take 2 fun K36 hk36 => ?_
      refine sh1 F1 ?_
      refine sd ?_
      refine hk36 _ ?_
      refine evL_take 1 fun K37 hk37 => ?_
      refine sh1 F1 ?_
      refine Or.inl (Or.inl ⟨_, c5, ?_⟩)
      refine hk37 _ ?_
      refine evL_take 4 fun K38 hk38 => ?_
      refine sh1 F1 ?_
      refine sd ?_
      refine hk38 _ ?_
      refine sh1 F1 ?_
      refine hk34 _ ?_
      refine hn33 (some ([3, 5, 9, 10, 11, 92, 93, 96, 97, 98, 99, 100, 101, 102, 151, 152, 153, 154, 155, 156, 157, 158, 159], none)) _ ?_
      refine ev_seq_k fun K39 hn39 hr39 he39 => ?_
      refine ev_ops_k fun K40 hk40 => ?_
      refine evL_take 1 fun K41 hk41 => ?_
      refine sh1 F1 ?_
      refine sd ?_
      refine hk41 _ ?_
      refine evL_take 1 fun K42 hk42 => ?_
      refine sh1 F1 ?_
      refine sd ?_
      refine hk42 _ ?_
      refine evL_take 1 fun K43 hk43 => ?_
      refine sh1 F1 ?_
      refine Or.inl (Or.inl ⟨_, c6, ?_⟩)
      refine hk43 _ ?_
      refine evL_take 4 fun K44 hk44 => ?_
      refine sh1 F1 ?_
      refine sd ?_
      refine hk44 _ ?_
      refine sh1 F1 ?_
      refine hk40 _ ?_
      refine hn39 (some ([3, 5, 9, 10, 11, 12, 92, 93, 96, 97, 98, 99, 100, 101, 102, 151, 152, 153, 154, 155, 156, 157, 158, 159], none)) _ ?_
      refine ev_seq_k fun K45 hn45 hr45 he45 => ?_
      refine ev_ops_k fun K46 hk46 => ?_
      refine sh1 F1 ?_
      refine sd ?_
      refine hk46 _ ?_
      refine hn45 (some ([3, 5, 9, 10, 11, 12, 13, 92, 93, 96, 97, 98, 99, 100, 101, 102, 151, 152, 153, 154, 155, 156, 157, 158, 159], none)) _ ?_
      refine ev_seq_k fun K47 hn47 hr47 he47 => ?_
      refine ev_seq_k fun K48 hn48 hr48 he48 => ?_
      refine ev_ops_k fun K49 hk49 => ?_
      refine sh1 F1 ?_
      refine sd ?_
      refine hk49 _ ?_
      refine hn48 (some ([3, 5, 9, 10, 11, 12, 13, 74, 92, 93, 96, 97, 98, 99, 100, 101, 102, 151, 152, 153, 154, 155, 156, 157, 158, 159], none)) _ ?_
      refine ev_cond_k rfl (fun hx => absurd hx (by simp at hx)) (fun hc3 => ?_)
      clear hc3
      refine ev_ops_k fun K50 hk50 => ?_
      refine evL_take 1 fun K51 hk51 => ?_
      refine sh1 F1 ?_
      refine sd ?_
      refine hk51 _ ?_
      refine evL_take 2 fun K52 hk52 => ?_
      refine sh1 F1 ?_
      refine sd ?_
      refine hk52 _ ?_
      refine evL_take 1 fun K53 hk53 => ?_
      refine sh1 F1 ?_
      refine Or.inl (Or.inl ⟨_, c8, ?_⟩)
      refine hk53 _ ?_
      refine evL_take 5 fun K54 hk54 => ?_
      refine sh1 F1 ?_
      refine sd ?_
      refine hk54 _ ?_
      refine sh1 F1 ?_
      refine sd ?_
      refine hk50 _ ?_
      refine hn47 (some ([3, 5, 9, 10, 11, 12, 13, 92, 93, 96, 97, 98, 99, 100, 101, 102, 151, 152, 153, 154, 155, 156, 157, 158, 159], none)) _ ?_
      refine ev_seq_k fun K55 hn55 hr55 he55 => ?_
      refine ev_seq_k fun K56 hn56 hr56 he56 => ?_
      refine ev_ops_k fun K57 hk57 => ?_
      refine evL_take 2 fun K58 hk58 => ?_
      refine sh1 F1 ?_
      refine sd ?_
      refine hk58 _ ?_
      refine evL_take 3 fun K59 hk59 => ?_
      refine sh1 F1 ?_
      refine sd ?_
      refine hk59 _ ?_
      refine evL_take 4 fun K60 hk60 => ?_
      refine sh1 F1 ?_
      refine sd ?_
      refine hk60 _ ?_
      refine evL_take 2 fun K61 hk61 => ?_
      refine sh1 F1 ?_
      refine sd ?_
      refine hk61 _ ?_
      refine evL_take 1 fun K62 hk62 => ?_
      refine sh1 F1 ?_
      refine sd ?_
      refine hk62 _ ?_
      refine evL_take 1 fun K63 hk63 => ?_
      refine sh1 F1 ?_
      skip
      refine hk63 _ ?_
      refine sh1 F1 ?_
      refine hk57 _ ?_
      refine hn56 (some ([3, 5, 9, 10, 13, 103, 151, 152, 153, 154, 155, 156, 157, 158, 159], none)) _ ?_
      refine ev_cond_k rfl (fun hx => absurd hx (by simp at hx)) (fun hc4 => ?_)
      clear hc4
      refine hn55 (some ([3, 5, 9, 10, 13, 151, 152, 153, 154, 155, 156, 157, 158, 159], none)) _ ?_
      refine ev_seq_k fun K64 hn64 hr64 he64 => ?_
      refine ev_seq_k fun K65 hn65 hr65 he65 => ?_
      refine ev_ops_k fun K66 hk66 => ?_
      refine evL_take 1 fun K67 hk67 => ?_
      refine sh1 F1 ?_
      refine sd ?_
      refine hk67 _ ?_
      refine evL_take 1 fun K68 hk68 => ?_
      refine sh1 F1 ?_
      refine sd ?_
      refine hk68 _ ?_
      refine sh1 F1 ?_
      refine Or.inl ⟨_, eqsh_word_refl flagW, ?_⟩
      refine hk66 _ ?_
      refine hn65 (some ([3, 5, 10, 106, 151, 152, 153, 154, 155, 156, 157, 158, 159], none)) _ ?_
      refine ev_cond_k rfl (fun hx => absurd hx (by simp at hx)) (fun hc5 => ?_)
      clear hc5
      refine hn64 (some ([3, 5, 10, 151, 152, 153, 154, 155, 156, 157, 158, 159], none)) _ ?_
      refine ev_seq_k fun K69 hn69 hr69 he69 => ?_
      refine ev_ops_k fun K70 hk70 => ?_
      refine evL_take 1 fun K71 hk71 => ?_
      refine sh1 F1 ?_
      refine sd ?_
      refine hk71 _ ?_
      refine evL_take 2 fun K72 hk72 => ?_
      refine sh1 F1 ?_
      refine sd ?_
      refine hk72 _ ?_
      refine evL_take 1 fun K73 hk73 => ?_
      refine sh1 F1 ?_
      refine Or.inl (Or.inl ⟨_, c9, ?_⟩)
      refine hk73 _ ?_
      refine evL_take 7 fun K74 hk74 => ?_
      refine sh1 F1 ?_
      refine sd ?_
      refine hk74 _ ?_
      refine evL_take 1 fun K75 hk75 => ?_
      refine sh1 F1 ?_
      refine sd ?_
      refine hk75 _ ?_
      refine sh1 F1 ?_
      refine hk70 _ ?_
      refine hn69 (some ([3, 5, 10, 15, 151, 152, 153, 154, 155, 156, 157, 158, 159], none)) _ ?_
      refine ev_seq_k fun K76 hn76 hr76 he76 => ?_
      refine ev_seq_k fun K77 hn77 hr77 he77 => ?_
      refine ev_ops_k fun K78 hk78 => ?_
      refine evL_take 1 fun K79 hk79 => ?_
      refine sh1 F1 ?_
      refine sd ?_
      refine hk79 _ ?_
      refine evL_take 2 fun K80 hk80 => ?_
      refine sh1 F1 ?_
      refine sd ?_
      refine hk80 _ ?_
      refine sh1 F1 ?_
      refine Or.inl ⟨_, eqsh_word_refl w, ?_⟩
      refine hk78 _ ?_
      refine hn77 (some ([3, 5, 10, 118, 151, 152, 153, 154, 155, 156, 157, 158, 159], none)) _ ?_
      refine ev_cond_k rfl (fun hx => absurd hx (by simp at hx)) (fun hc6 => ?_)
      clear hc6
      refine hn76 (some ([3, 5, 10, 151, 152, 153, 154, 155, 156, 157, 158, 159], none)) _ ?_
      refine ev_seq_k fun K81 hn81 hr81 he81 => ?_
      refine ev_ops_k fun K82 hk82 => ?_
      refine evL_take 1 fun K83 hk83 => ?_
      refine sh1 F1 ?_
      refine sd ?_
      refine hk83 _ ?_
      refine evL_take 1 fun K84 hk84 => ?_
      refine sh1 F1 ?_
      refine Or.inl (Or.inl ⟨_, c10, ?_⟩)
      refine hk84 _ ?_
      refine evL_take 5 fun K85 hk85 => ?_
      refine sh1 F1 ?_
      refine sd ?_
      refine hk85 _ ?_
      refine sh1 F1 ?_
      refine hk82 _ ?_
      refine hn81 (some ([3, 5, 10, 17, 151, 152, 153, 154, 155, 156, 157, 158, 159], none)) _ ?_
      refine ev_seq_k fun K86 hn86 hr86 he86 => ?_
      refine ev_ops_k fun K87 hk87 => ?_
      refine evL_take 1 fun K88 hk88 => ?_
      refine sh1 F1 ?_
      refine sd ?_
      refine hk88 _ ?_
      refine evL_take 1 fun K89 hk89 => ?_
      refine sh1 F1 ?_
      refine sd ?_
      refine hk89 _ ?_
      refine evL_take 1 fun K90 hk90 => ?_
      refine sh1 F1 ?_
      refine sd ?_
      refine hk90 _ ?_
      refine evL_take 1 fun K91 hk91 => ?_
      refine sh1 F1 ?_
      refine Or.inl (Or.inl ⟨_, c11, ?_⟩)
      refine hk91 _ ?_
      refine evL_take 7 fun K92 hk92 => ?_
      refine sh1 F1 ?_
      refine sd ?_
      refine hk92 _ ?_
      refine evL_take 1 fun K93 hk93 => ?_
      refine sh1 F1 ?_
      refine sd ?_
      refine hk93 _ ?_
      refine sh1 F1 ?_
      refine hk87 _ ?_
      refine hn86 (some ([3, 5, 10, 20, 151, 152, 153, 154, 155, 156, 157, 158, 159], none)) _ ?_
      refine ev_seq_k fun K94 hn94 hr94 he94 => ?_
      refine ev_ops_k fun K95 hk95 => ?_
      refine evL_take 1 fun K96 hk96 => ?_
      refine sh1 F1 ?_
      refine sd ?_
      refine hk96 _ ?_
      refine evL_take 2 fun K97 hk97 => ?_
      refine sh1 F1 ?_
      refine sd ?_
      refine hk97 _ ?_
      refine evL_take 1 fun K98 hk98 => ?_
      refine sh1 F1 ?_
      refine Or.inl (Or.inl ⟨_, c12, ?_⟩)
      refine hk98 _ ?_
      refine evL_take 6 fun K99 hk99 => ?_
      refine sh1 F1 ?_
      refine sd ?_
      refine hk99 _ ?_
      refine evL_take 1 fun K100 hk100 => ?_
      refine sh1 F1 ?_
      refine sd ?_
      refine hk100 _ ?_
      refine sh1 F1 ?_
      refine hk95 _ ?_
      refine hn94 (some ([3, 5, 10, 20, 22, 151, 152, 153, 154, 155, 156, 157, 158, 159], none)) _ ?_
      refine ev_seq_k fun K101 hn101 hr101 he101 => ?_
      refine ev_ops_k fun K102 hk102 => ?_
      refine evL_take 1 fun K103 hk103 => ?_
      refine sh1 F1 ?_
      refine sd ?_
      refine hk103 _ ?_
      refine evL_take 2 fun K104 hk104 => ?_
      refine sh1 F1 ?_
      refine sd ?_
      refine hk104 _ ?_
      refine evL_take 1 fun K105 hk105 => ?_
      refine sh1 F1 ?_
      refine Or.inl (Or.inl ⟨_, c13, ?_⟩)
      refine hk105 _ ?_
      refine evL_take 7 fun K106 hk106 => ?_
      refine sh1 F1 ?_
      refine sd ?_
      refine hk106 _ ?_
      refine evL_take 1 fun K107 hk107 => ?_
      refine sh1 F1 ?_
      refine sd ?_
      refine hk107 _ ?_
      refine sh1 F1 ?_
      refine hk102 _ ?_
      refine hn101 (some ([3, 10, 20, 22, 25, 151, 152, 153, 154, 155, 156, 157, 158, 159], none)) _ ?_
      refine ev_seq_k fun K108 hn108 hr108 he108 => ?_
      refine ev_ops_k fun K109 hk109 => ?_
      refine evL_take 3 fun K110 hk110 => ?_
      refine sh1 F1 ?_
      refine sd ?_
      refine hk110 _ ?_
      refine evL_take 1 fun K111 hk111 => ?_
      refine sh1 F1 ?_
      refine sd ?_
      refine hk111 _ ?_
      refine evL_take 1 fun K112 hk112 => ?_
      refine sh1 F1 ?_
      refine Or.inl ⟨_, hE3, ?_⟩
      refine hk112 _ ?_
      refine evL_take 2 fun K113 hk113 => ?_
      refine sh1 F1 ?_
      refine sd ?_
      refine hk113 _ ?_
      refine evL_take 2 fun K114 hk114 => ?_
      refine sh1 F1 ?_
      refine sd ?_
      refine hk114 _ ?_
      refine evL_take 1 fun K115 hk115 => ?_
      refine sh1 F1 ?_
      refine Or.inl ⟨_, eqsh_word_refl _, ?_⟩
      refine hk115 _ ?_
      refine sh1 F1 ?_
      refine hk109 _ ?_
      refine hn108 (some ([4], none)) _ ?_
      exact sf1 F1
  · obtain ⟨p1, p2, p3⟩ := pass_look hM2 hP hv hp
    have c7 := ok_mLook M2 2 1 hM2 (by omega)
    rw [p1] at c7
    have hM3 := memOk_look hM2 2 1
    generalize (look1M M2 2 1).1 = M3 at c7 p2 p3 hM3
    obtain ⟨L9, lw, e10, M4, M5, got, M6, there, e13, c9, c10, c11, c12, c13, c14⟩ := pass_tail hM3 (by omega) p2 hv hp hk p3 b thr c
    cases hg : weq got keyW
    · have hE3 : EqSh 29 (.agg (eWord got)) (.agg (eWord keyW)) false := by rw [← hg]; exact eqsh_word _ _
      unfold evFn sc_MemoryPasses rv_MemoryPasses
      have F1 := And.intro @hb (And.intro @h1 @h2)
      refine ev_seq_k fun K1 hn1 hr1 he1 => ?_
      refine ev_ops_k fun K2 hk2 => ?_
      refine sh1 F1 ?_
      refine hk2 _ ?_
      refine hn1 (some ([2, 3, 42, 43, 46, 47, 55, 56, 57, 92, 93, 96, 97, 98, 99, 100, 101, 102, 151, 152, 153, 154, 155, 156, 157, 158, 159], none)) _ ?_
      refine ev_seq_k fun K3 hn3 hr3 he3 => ?_
      refine ev_seq_k fun K4 hn4 hr4 he4 => ?_
      refine ev_ops_k fun K5 hk5 => ?_
      refine evL_take 1 fun K6 hk6 => ?_
      refine sh1 F1 ?_
      refine Or.inl (Or.inl ⟨_, ok_l4awake, ?_⟩)
      refine hk6 _ ?_
      refine sh1 F1 ?_
      refine hk5 _ ?_
      refine hn4 (some ([2, 3, 28, 42, 43, 46, 47, 55, 56, 57, 92, 93, 96, 97, 98, 99, 100, 101, 102, 151, 152, 153, 154, 155, 156, 157, 158, 159], none)) _ ?_
      refine ev_cond_k rfl (fun hx => absurd hx (by simp at hx)) (fun hc0 => ?_)
      clear hc0
      refine hn3 (some ([2, 3, 42, 43, 46, 47, 55, 56, 57, 92, 93, 96, 97, 98, 99, 100, 101, 102, 151, 152, 153, 154, 155, 156, 157, 158, 159], none)) _ ?_
      refine ev_seq_k fun K7 hn7 hr7 he7 => ?_
      refine ev_ops_k fun K8 hk8 => ?_
      refine evL_take 1 fun K9 hk9 => ?_
      refine sh1 F1 ?_
      refine sd ?_
      refine hk9 _ ?_
      refine evL_take 1 fun K10 hk10 => ?_
      refine sh1 F1 ?_
      refine Or.inl (Or.inl ⟨_, c1, ?_⟩)
      refine hk10 _ ?_
      refine evL_take 5 fun K11 hk11 => ?_
      refine sh1 F1 ?_
      refine sd ?_
      refine hk11 _ ?_
      refine sh1 F1 ?_
      refine hk8 _ ?_
      refine hn7 (some ([3, 5, 6, 42, 43, 46, 47, 55, 56, 57, 92, 93, 96, 97, 98, 99, 100, 101, 102, 151, 152, 153, 154, 155, 156, 157, 158, 159], none)) _ ?_
      refine ev_seq_k fun K12 hn12 hr12 he12 => ?_
      refine ev_ops_k fun K13 hk13 => ?_
      refine evL_take 1 fun K14 hk14 => ?_
      refine sh1 F1 ?_
      refine sd ?_
      refine hk14 _ ?_
      refine evL_take 1 fun K15 hk15 => ?_
      refine sh1 F1 ?_
      refine Or.inl (Or.inl ⟨_, ok_mSize M, ?_⟩)
      refine hk15 _ ?_
      refine sh1 F1 ?_
      refine hk13 _ ?_
      refine hn12 (some ([3, 5, 6, 7, 8, 42, 43, 46, 47, 55, 56, 57, 92, 93, 96, 97, 98, 99, 100, 101, 102, 151, 152, 153, 154, 155, 156, 157, 158, 159], none)) _ ?_
      refine ev_seq_k fun K16 hn16 hr16 he16 => ?_
      refine ev_seq_k fun K17 hn17 hr17 he17 => ?_
      refine ev_ops_k fun K18 hk18 => ?_
      refine evL_take 5 fun K19 hk19 => ?_
      refine sh1 F1 ?_
      refine sd ?_
      refine hk19 _ ?_
      refine evL_take 4 fun K20 hk20 => ?_
      refine sh1 F1 ?_
      refine sd ?_
      refine hk20 _ ?_
      refine sh1 F1 ?_
      refine hk18 _ ?_
      refine hn17 (some ([3, 5, 48, 55, 56, 57, 92, 93, 96, 97, 98, 99, 100, 101, 102, 151, 152, 153, 154, 155, 156, 157, 158, 159], none)) _ ?_
      refine ev_cond_k rfl (fun hx => absurd hx (by simp at hx)) (fun hc1 => ?_)
      clear hc1
      refine hn16 (some ([3, 5, 55, 56, 57, 92, 93, 96, 97, 98, 99, 100, 101, 102, 151, 152, 153, 154, 155, 156, 157, 158, 159], none)) _ ?_
      refine ev_seq_k fun K21 hn21 hr21 he21 => ?_
      refine ev_ops_k fun K22 hk22 => ?_
      refine evL_take 5 fun K23 hk23 => ?_
      refine sh1 F1 ?_
      refine sd ?_
      refine hk23 _ ?_
      refine sh1 F1 ?_
      refine sd ?_
      refine hk22 _ ?_
      refine hn21 (some ([3, 5, 9, 10, 55, 56, 57, 92, 93, 96, 97, 98, 99, 100, 101, 102, 151, 152, 153, 154, 155, 156, 157, 158, 159], none)) _ ?_
      refine ev_seq_k fun K24 hn24 hr24 he24 => ?_
      refine ev_seq_k fun K25 hn25 hr25 he25 => ?_
      refine ev_ops_k fun K26 hk26 => ?_
      refine evL_take 1 fun K27 hk27 => ?_
      refine sh1 F1 ?_
      refine sd ?_
      refine hk27 _ ?_
      refine evL_take 1 fun K28 hk28 => ?_
      refine sh1 F1 ?_
      refine sd ?_
      refine hk28 _ ?_
      refine evL_take 1 fun K29 hk29 => ?_
      refine sh1 F1 ?_
      refine Or.inl (Or.inl ⟨_, c3, ?_⟩)
      refine hk29 _ ?_
      refine evL_take 2 fun K30 hk30 => ?_
      refine sh1 F1 ?_
      refine sd ?_
      refine hk30 _ ?_
      refine evL_take 1 fun K31 hk31 => ?_
      refine sh1 F1 ?_
      refine sd ?_
      refine hk31 _ ?_
      refine evL_take 1 fun K32 hk32 => ?_
      refine sh1 F1 ?_
      refine Or.inl (Or.inl ⟨_, c4, ?_⟩)
      refine hk32 _ ?_
      refine sh1 F1 ?_
      refine hk26 _ ?_
      refine hn25 (some ([3, 5, 9, 10, 58, 92, 93, 96, 97, 98, 99, 100, 101, 102, 151, 152, 153, 154, 155, 156, 157, 158, 159], none)) _ ?_
      refine ev_cond_k rfl (fun hx => absurd hx (by simp at hx)) (fun hc2 => ?_)
      clear hc2
      refine hn24 (some ([3, 5, 9, 10, 92, 93, 96, 97, 98, 99, 100, 101, 102, 151, 152, 153, 154, 155, 156, 157, 158, 159], none)) _ ?_
      refine ev_seq_k fun K33 hn33 hr33 he33 => ?_
      refine ev_ops_k fun K34 hk34 => ?_
      refine evL_take 1 fun K35 hk35 => ?_
      refine sh1 F1 ?_
      refine sd ?_
      refine hk35 _ ?_
      refine evL_take 2 fun K36 hk36 => ?_
      refine sh1 F1 ?_
      refine sd ?_
      refine hk36 _ ?_
      refine evL_take 1 fun K37 hk37 => ?_
      refine sh1 F1 ?_
      refine Or.inl (Or.inl ⟨_, c5, ?_⟩)
      refine hk37 _ ?_
      refine evL_take 4 fun K38 hk38 => ?_
      refine sh1 F1 ?_
      refine sd ?_
      refine hk38 _ ?_
      refine sh1 F1 ?_
      refine hk34 _ ?_
      refine hn33 (some ([3, 5, 9, 10, 11, 92, 93, 96, 97, 98, 99, 100, 101, 102, 151, 152, 153, 154, 155, 156, 157, 158, 159], none)) _ ?_
      refine ev_seq_k fun K39 hn39 hr39 he39 => ?_
      refine ev_ops_k fun K40 hk40 => ?_
      refine evL_take 1 fun K41 hk41 => ?_
      refine sh1 F1 ?_
      refine sd ?_
      refine hk41 _ ?_
      refine evL_take 1 fun K42 hk42 => ?_
      refine sh1 F1 ?_
      refine sd ?_
      refine hk42 _ ?_
      refine evL_take 1 fun K43 hk43 => ?_
      refine sh1 F1 ?_
      refine Or.inl (Or.inl ⟨_, c6, ?_⟩)
      refine hk43 _ ?_
      refine evL_take 4 fun K44 hk44 => ?_
      refine sh1 F1 ?_
      refine sd ?_
      refine hk44 _ ?_
      refine sh1 F1 ?_
      refine hk40 _ ?_
      refine hn39 (some ([3, 5, 9, 10, 11, 12, 92, 93, 96, 97, 98, 99, 100, 101, 102, 151, 152, 153, 154, 155, 156, 157, 158, 159], none)) _ ?_
      refine ev_seq_k fun K45 hn45 hr45 he45 => ?_
      refine ev_ops_k fun K46 hk46 => ?_
      refine sh1 F1 ?_
      refine sd ?_
      refine hk46 _ ?_
      refine hn45 (some ([3, 5, 9, 10, 11, 12, 13, 92, 93, 96, 97, 98, 99, 100, 101, 102, 151, 152, 153, 154, 155, 156, 157, 158, 159], none)) _ ?_
      refine ev_seq_k fun K47 hn47 hr47 he47 => ?_
      refine ev_seq_k fun K48 hn48 hr48 he48 => ?_
      refine ev_ops_k fun K49 hk49 => ?_
      refine sh1 F1 ?_
      refine sd ?_
      refine hk49 _ ?_
      refine hn48 (some ([3, 5, 9, 10, 11, 12, 13, 74, 92, 93, 96, 97, 98, 99, 100, 101, 102, 151, 152, 153, 154, 155, 156, 157, 158, 159], none)) _ ?_
      refine ev_cond_k rfl (fun hc3 => ?_) (fun hx => absurd hx (by simp at hx))
      clear hc3
      refine ev_ops_k fun K50 hk50 => ?_
      refine evL_take 1 fun K51 hk51 => ?_
      refine sh1 F1 ?_
      refine sd ?_
      refine hk51 _ ?_
      refine evL_take 1 fun K52 hk52 => ?_
      refine sh1 F1 ?_
      refine Or.inl (Or.inl ⟨_, c7, ?_⟩)
      refine hk52 _ ?_
      refine evL_take 5 fun K53 hk53 => ?_
      refine sh1 F1 ?_
      refine sd ?_
      refine hk53 _ ?_
      refine sh1 F1 ?_
      refine sd ?_
      refine hk50 _ ?_
      refine hn47 (some ([3, 5, 9, 10, 11, 12, 13, 92, 93, 96, 97, 98, 99, 100, 101, 102, 151, 152, 153, 154, 155, 156, 157, 158, 159], none)) _ ?_
      refine ev_seq_k fun K54 hn54 hr54 he54 => ?_
      refine ev_seq_k fun K55 hn55 hr55 he55 => ?_
      refine ev_ops_k fun K56 hk56 => ?_
      refine evL_take 2 fun K57 hk57 => ?_
      refine sh1 F1 ?_
      refine sd ?_
      refine hk57 _ ?_
      refine evL_take 3 fun K58 hk58 => ?_
      refine sh1 F1 ?_
      refine sd ?_
      refine hk58 _ ?_
      refine evL_take 4 fun K59 hk59 => ?_
      refine sh1 F1 ?_
      refine sd ?_
      refine hk59 _ ?_
      refine evL_take 2 fun K60 hk60 => ?_
      refine sh1 F1 ?_
      refine sd ?_
      refine hk60 _ ?_
      refine evL_take 1 fun K61 hk61 => ?_
      refine sh1 F1 ?_
      refine sd ?_
      refine hk61 _ ?_
      refine evL_take 1 fun K62 hk62 => ?_
      refine sh1 F1 ?_
      refine Or.inl ⟨_, eqsh_word_refl flagW, ?_⟩
      refine hk62 _ ?_
      refine sh1 F1 ?_
      refine hk56 _ ?_
      refine hn55 (some ([3, 5, 9, 10, 13, 103, 151, 152, 153, 154, 155, 156, 157, 158, 159], none)) _ ?_
      refine ev_cond_k rfl (fun hx => absurd hx (by simp at hx)) (fun hc4 => ?_)
      clear hc4
      refine hn54 (some ([3, 5, 9, 10, 13, 151, 152, 153, 154, 155, 156, 157, 158, 159], none)) _ ?_
      refine ev_seq_k fun K63 hn63 hr63 he63 => ?_
      refine ev_seq_k fun K64 hn64 hr64 he64 => ?_
      refine ev_ops_k fun K65 hk65 => ?_
      refine evL_take 1 fun K66 hk66 => ?_
      refine sh1 F1 ?_
      refine sd ?_
      refine hk66 _ ?_
      refine evL_take 1 fun K67 hk67 => ?_
      refine sh1 F1 ?_
      refine sd ?_
      refine hk67 _ ?_
      refine sh1 F1 ?_
      refine Or.inl ⟨_, eqsh_word_refl flagW, ?_⟩
      refine hk65 _ ?_
      refine hn64 (some ([3, 5, 10, 106, 151, 152, 153, 154, 155, 156, 157, 158, 159], none)) _ ?_
      refine ev_cond_k rfl (fun hx => absurd hx (by simp at hx)) (fun hc5 => ?_)
      clear hc5
      refine hn63 (some ([3, 5, 10, 151, 152, 153, 154, 155, 156, 157, 158, 159], none)) _ ?_
      refine ev_seq_k fun K68 hn68 hr68 he68 => ?_
      refine ev_ops_k fun K69 hk69 => ?_
      refine evL_take 1 fun K70 hk70 => ?_
      refine sh1 F1 ?_
      refine sd ?_
      refine hk70 _ ?_
      refine evL_take 2 fun K71 hk71 => ?_
      refine sh1 F1 ?_
      refine sd ?_
      refine hk71 _ ?_
      refine evL_take 1 fun K72 hk72 => ?_
      refine sh1 F1 ?_
      refine Or.inl (Or.inl ⟨_, c9, ?_⟩)
      refine hk72 _ ?_
      refine evL_take 7 fun K73 hk73 => ?_
      refine sh1 F1 ?_
      refine sd ?_
      refine hk73 _ ?_
      refine evL_take 1 fun K74 hk74 => ?_
      refine sh1 F1 ?_
      refine sd ?_
      refine hk74 _ ?_
      refine sh1 F1 ?_
      refine hk69 _ ?_
      refine hn68 (some ([3, 5, 10, 15, 151, 152, 153, 154, 155, 156, 157, 158, 159], none)) _ ?_
      refine ev_seq_k fun K75 hn75 hr75 he75 => ?_
      refine ev_seq_k fun K76 hn76 hr76 he76 => ?_
      refine ev_ops_k fun K77 hk77 => ?_
      refine evL_take 1 fun K78 hk78 => ?_
      refine sh1 F1 ?_
      refine sd ?_
      refine hk78 _ ?_
      refine evL_take 2 fun K79 hk79 => ?_
      refine sh1 F1 ?_
      refine sd ?_
      refine hk79 _ ?_
      refine sh1 F1 ?_
      refine Or.inl ⟨_, eqsh_word_refl w, ?_⟩
      refine hk77 _ ?_
      refine hn76 (some ([3, 5, 10, 118, 151, 152, 153, 154, 155, 156, 157, 158, 159], none)) _ ?_
      refine ev_cond_k rfl (fun hx => absurd hx (by simp at hx)) (fun hc6 => ?_)
      clear hc6
      refine hn75 (some ([3, 5, 10, 151, 152, 153, 154, 155, 156, 157, 158, 159], none)) _ ?_
      refine ev_seq_k fun K80 hn80 hr80 he80 => ?_
      refine ev_ops_k fun K81 hk81 => ?_
      refine evL_take 1 fun K82 hk82 => ?_
      refine sh1 F1 ?_
      refine sd ?_
      refine hk82 _ ?_
      refine evL_take 1 fun K83 hk83 => ?_
      refine sh1 F1 ?_
      refine Or.inl (Or.inl ⟨_, c10, ?_⟩)
      refine hk83 _ ?_
      refine evL_take 5 fun K84 hk84 => ?_
      refine sh1 F1 ?_
      refine sd ?_
      refine hk84 _ ?_
      refine sh1 F1 ?_
      refine hk81 _ ?_
      refine hn80 (some ([3, 5, 10, 17, 151, 152, 153, 154, 155, 156, 157, 158, 159], none)) _ ?_
      refine ev_seq_k fun K85 hn85 hr85 he85 => ?_
      refine ev_ops_k fun K86 hk86 => ?_
      refine evL_take 1 fun K87 hk87 => ?_
      refine sh1 F1 ?_
      refine sd ?_
      refine hk87 _ ?_
      refine evL_take 1 fun K88 hk88 => ?_
      refine sh1 F1 ?_
      refine sd ?_
      refine hk88 _ ?_
      refine evL_take 1 fun K89 hk89 => ?_
      refine sh1 F1 ?_
      refine sd ?_
      refine hk89 _ ?_
      refine evL_take 1 fun K90 hk90 => ?_
      refine sh1 F1 ?_
      refine Or.inl (Or.inl ⟨_, c11, ?_⟩)
      refine hk90 _ ?_
      refine evL_take 7 fun K91 hk91 => ?_
      refine sh1 F1 ?_
      refine sd ?_
      refine hk91 _ ?_
      refine evL_take 1 fun K92 hk92 => ?_
      refine sh1 F1 ?_
      refine sd ?_
      refine hk92 _ ?_
      refine sh1 F1 ?_
      refine hk86 _ ?_
      refine hn85 (some ([3, 5, 10, 20, 151, 152, 153, 154, 155, 156, 157, 158, 159], none)) _ ?_
      refine ev_seq_k fun K93 hn93 hr93 he93 => ?_
      refine ev_ops_k fun K94 hk94 => ?_
      refine evL_take 1 fun K95 hk95 => ?_
      refine sh1 F1 ?_
      refine sd ?_
      refine hk95 _ ?_
      refine evL_take 2 fun K96 hk96 => ?_
      refine sh1 F1 ?_
      refine sd ?_
      refine hk96 _ ?_
      refine evL_take 1 fun K97 hk97 => ?_
      refine sh1 F1 ?_
      refine Or.inl (Or.inl ⟨_, c12, ?_⟩)
      refine hk97 _ ?_
      refine evL_take 6 fun K98 hk98 => ?_
      refine sh1 F1 ?_
      refine sd ?_
      refine hk98 _ ?_
      refine evL_take 1 fun K99 hk99 => ?_
      refine sh1 F1 ?_
      refine sd ?_
      refine hk99 _ ?_
      refine sh1 F1 ?_
      refine hk94 _ ?_
      refine hn93 (some ([3, 5, 10, 20, 22, 151, 152, 153, 154, 155, 156, 157, 158, 159], none)) _ ?_
      refine ev_seq_k fun K100 hn100 hr100 he100 => ?_
      refine ev_ops_k fun K101 hk101 => ?_
      refine evL_take 1 fun K102 hk102 => ?_
      refine sh1 F1 ?_
      refine sd ?_
      refine hk102 _ ?_
      refine evL_take 2 fun K103 hk103 => ?_
      refine sh1 F1 ?_
      refine sd ?_
      refine hk103 _ ?_
      refine evL_take 1 fun K104 hk104 => ?_
      refine sh1 F1 ?_
      refine Or.inl (Or.inl ⟨_, c13, ?_⟩)
      refine hk104 _ ?_
      refine evL_take 7 fun K105 hk105 => ?_
      refine sh1 F1 ?_
      refine sd ?_
      refine hk105 _ ?_
      refine evL_take 1 fun K106 hk106 => ?_
      refine sh1 F1 ?_
      refine sd ?_
      refine hk106 _ ?_
      refine sh1 F1 ?_
      refine hk101 _ ?_
      refine hn100 (some ([3, 10, 20, 22, 25, 151, 152, 153, 154, 155, 156, 157, 158, 159], none)) _ ?_
      refine ev_seq_k fun K107 hn107 hr107 he107 => ?_
      refine ev_ops_k fun K108 hk108 => ?_
      refine evL_take 3 fun K109 hk109 => ?_
      refine sh1 F1 ?_
      refine sd ?_
      refine hk109 _ ?_
      refine evL_take 1 fun K110 hk110 => ?_
      refine sh1 F1 ?_
      refine sd ?_
      refine hk110 _ ?_
      refine evL_take 1 fun K111 hk111 => ?_
      refine sh1 F1 ?_
      refine Or.inl ⟨_, hE3, ?_⟩
      refine hk111 _ ?_
      refine evL_take 2 fun K112 hk112 => ?_
      refine sh1 F1 ?_
      refine sd ?_
      refine hk112 _ ?_
      refine evL_take 2 fun K113 hk113 => ?_
      refine sh1 F1 ?_
      refine sd ?_
      refine hk113 _ ?_
      refine evL_take 1 fun K114 hk114 => ?_
      refine sh1 F1 ?_
      skip
      refine hk114 _ ?_
      refine sh1 F1 ?_
      refine hk108 _ ?_
      refine hn107 (some ([4], none)) _ ?_
      exact sf1 F1
    · have hE3 : EqSh 29 (.agg (eWord got)) (.agg (eWord keyW)) true := by rw [← hg]; exact eqsh_word _ _
      obtain rfl := (c14 hg).symm
      unfold evFn sc_MemoryPasses rv_MemoryPasses
      have F1 := And.intro @hb (And.intro @h1 @h2)
      refine ev_seq_k fun K1 hn1 hr1 he1 => ?_
      refine ev_ops_k fun K2 hk2 => ?_
      refine sh1 F1 ?_
      refine hk2 _ ?_
      refine hn1 (some ([2, 3, 42, 43, 46, 47, 55, 56, 57, 92, 93, 96, 97, 98, 99, 100, 101, 102, 151, 152, 153, 154, 155, 156, 157, 158, 159], none)) _ ?_
      refine ev_seq_k fun K3 hn3 hr3 he3 => ?_
      refine ev_seq_k fun K4 hn4 hr4 he4 => ?_
      refine ev_ops_k fun K5 hk5 => ?_
      refine evL_take 1 fun K6 hk6 => ?_
      refine sh1 F1 ?_
      refine Or.inl (Or.inl ⟨_, ok_l4awake, ?_⟩)
      refine hk6 _ ?_
      refine sh1 F1 ?_
      refine hk5 _ ?_
      refine hn4 (some ([2, 3, 28, 42, 43, 46, 47, 55, 56, 57, 92, 93, 96, 97, 98, 99, 100, 101, 102, 151, 152, 153, 154, 155, 156, 157, 158, 159], none)) _ ?_
      refine ev_cond_k rfl (fun hx => absurd hx (by simp at hx)) (fun hc0 => ?_)
      clear hc0
      refine hn3 (some ([2, 3, 42, 43, 46, 47, 55, 56, 57, 92, 93, 96, 97, 98, 99, 100, 101, 102, 151, 152, 153, 154, 155, 156, 157, 158, 159], none)) _ ?_
      refine ev_seq_k fun K7 hn7 hr7 he7 => ?_
      refine ev_ops_k fun K8 hk8 => ?_
      refine evL_take 1 fun K9 hk9 => ?_
      refine sh1 F1 ?_
      refine sd ?_
      refine hk9 _ ?_
      refine evL_take 1 fun K10 hk10 => ?_
      refine sh1 F1 ?_
      refine Or.inl (Or.inl ⟨_, c1, ?_⟩)
      refine hk10 _ ?_
      refine evL_take 5 fun K11 hk11 => ?_
      refine sh1 F1 ?_
      refine sd ?_
      refine hk11 _ ?_
      refine sh1 F1 ?_
      refine hk8 _ ?_
      refine hn7 (some ([3, 5, 6, 42, 43, 46, 47, 55, 56, 57, 92, 93, 96, 97, 98, 99, 100, 101, 102, 151, 152, 153, 154, 155, 156, 157, 158, 159], none)) _ ?_
      refine ev_seq_k fun K12 hn12 hr12 he12 => ?_
      refine ev_ops_k fun K13 hk13 => ?_
      refine evL_take 1 fun K14 hk14 => ?_
      refine sh1 F1 ?_
      refine sd ?_
      refine hk14 _ ?_
      refine evL_take 1 fun K15 hk15 => ?_
      refine sh1 F1 ?_
      refine Or.inl (Or.inl ⟨_, ok_mSize M, ?_⟩)
      refine hk15 _ ?_
      refine sh1 F1 ?_
      refine hk13 _ ?_
      refine hn12 (some ([3, 5, 6, 7, 8, 42, 43, 46, 47, 55, 56, 57, 92, 93, 96, 97, 98, 99, 100, 101, 102, 151, 152, 153, 154, 155, 156, 157, 158, 159], none)) _ ?_
      refine ev_seq_k fun K16 hn16 hr16 he16 => ?_
      refine ev_seq_k fun K17 hn17 hr17 he17 => ?_
      refine ev_ops_k fun K18 hk18 => ?_
      refine evL_take 5 fun K19 hk19 => ?_
      refine sh1 F1 ?_
      refine sd ?_
      refine hk19 _ ?_
      refine evL_take 4 fun K20 hk20 => ?_
      refine sh1 F1 ?_
      refine sd ?_
      refine hk20 _ ?_
      refine sh1 F1 ?_
      refine hk18 _ ?_
      refine hn17 (some ([3, 5, 48, 55, 56, 57, 92, 93, 96, 97, 98, 99, 100, 101, 102, 151, 152, 153, 154, 155, 156, 157, 158, 159], none)) _ ?_
      refine ev_cond_k rfl (fun hx => absurd hx (by simp at hx)) (fun hc1 => ?_)
      clear hc1
      refine hn16 (some ([3, 5, 55, 56, 57, 92, 93, 96, 97, 98, 99, 100, 101, 102, 151, 152, 153, 154, 155, 156, 157, 158, 159], none)) _ ?_
      refine ev_seq_k fun K21 hn21 hr21 he21 => ?_
      refine ev_ops_k fun K22 hk22 => ?_
      refine evL_take 5 fun K23 hk23 => ?_
      refine sh1 F1 ?_
      refine sd ?_
      refine hk23 _ ?_
      refine sh1 F1 ?_
      refine sd ?_
      refine hk22 _ ?_
      refine hn21 (some ([3, 5, 9, 10, 55, 56, 57, 92, 93, 96, 97, 98, 99, 100, 101, 102, 151, 152, 153, 154, 155, 156, 157, 158, 159], none)) _ ?_
      refine ev_seq_k fun K24 hn24 hr24 he24 => ?_
      refine ev_seq_k fun K25 hn25 hr25 he25 => ?_
      refine ev_ops_k fun K26 hk26 => ?_
      refine evL_take 1 fun K27 hk27 => ?_
      refine sh1 F1 ?_
      refine sd ?_
      refine hk27 _ ?_
      refine evL_take 1 fun K28 hk28 => ?_
      refine sh1 F1 ?_
      refine sd ?_
      refine hk28 _ ?_
      refine evL_take 1 fun K29 hk29 => ?_
      refine sh1 F1 ?_
      refine Or.inl (Or.inl ⟨_, c3, ?_⟩)
      refine hk29 _ ?_
      refine evL_take 2 fun K30 hk30 => ?_
      refine sh1 F1 ?_
      refine sd ?_
      refine hk30 _ ?_
      refine evL_take 1 fun K31 hk31 => ?_
      refine sh1 F1 ?_
      refine sd ?_
      refine hk31 _ ?_
      refine evL_take 1 fun K32 hk32 => ?_
      refine sh1 F1 ?_
      refine Or.inl (Or.inl ⟨_, c4, ?_⟩)
      refine hk32 _ ?_
      refine sh1 F1 ?_
      refine hk26 _ ?_
      refine hn25 (some ([3, 5, 9, 10, 58, 92, 93, 96, 97, 98, 99, 100, 101, 102, 151, 152, 153, 154, 155, 156, 157, 158, 159], none)) _ ?_
      refine ev_cond_k rfl (fun hx => absurd hx (by simp at hx)) (fun hc2 => ?_)
      clear hc2
      refine hn24 (some ([3, 5, 9, 10, 92, 93, 96, 97, 98, 99, 100, 101, 102, 151, 152, 153, 154, 155, 156, 157, 158, 159], none)) _ ?_
      refine ev_seq_k fun K33 hn33 hr33 he33 => ?_
      refine ev_ops_k fun K34 hk34 => ?_
      refine evL_take 1 fun K35 hk35 => ?_
      refine sh1 F1 ?_
      refine sd ?_
      refine hk35 _ ?_
      refine evL_take 2 fun K36 hk36 => ?_
      refine sh1 F1 ?_
      refine sd ?_
      refine hk36 _ ?_
      refine evL_take 1 fun K37 hk37 => ?_
      refine sh1 F1 ?_
      refine Or.inl (Or.inl ⟨_, c5, ?_⟩)
      refine hk37 _ ?_
      refine evL_take 4 fun K38 hk38 => ?_
      refine sh1 F1 ?_
      refine sd ?_
      refine hk38 _ ?_
      refine sh1 F1 ?_
      refine hk34 _ ?_
      refine hn33 (some ([3, 5, 9, 10, 11, 92, 93, 96, 97, 98, 99, 100, 101, 102, 151, 152, 153, 154, 155, 156, 157, 158, 159], none)) _ ?_
      refine ev_seq_k fun K39 hn39 hr39 he39 => ?_
      refine ev_ops_k fun K40 hk40 => ?_
      refine evL_take 1 fun K41 hk41 => ?_
      refine sh1 F1 ?_
      refine sd ?_
      refine hk41 _ ?_
      refine evL_take 1 fun K42 hk42 => ?_
      refine sh1 F1 ?_
      refine sd ?_
      refine hk42 _ ?_
      refine evL_take 1 fun K43 hk43 => ?_
      refine sh1 F1 ?_
      refine Or.inl (Or.inl ⟨_, c6, ?_⟩)
      refine hk43 _ ?_
      refine evL_take 4 fun K44 hk44 => ?_
      refine sh1 F1 ?_
      refine sd ?_
      refine hk44 _ ?_
      refine sh1 F1 ?_
      refine hk40 _ ?_
      refine hn39 (some ([3, 5, 9, 10, 11, 12, 92, 93, 96, 97, 98, 99, 100, 101, 102, 151, 152, 153, 154, 155, 156, 157, 158, 159], none)) _ ?_
      refine ev_seq_k fun K45 hn45 hr45 he45 => ?_
      refine ev_ops_k fun K46 hk46 => ?_
      refine sh1 F1 ?_
      refine sd ?_
      refine hk46 _ ?_
      refine hn45 (some ([3, 5, 9, 10, 11, 12, 13, 92, 93, 96, 97, 98, 99, 100, 101, 102, 151, 152, 153, 154, 155, 156, 157, 158, 159], none)) _ ?_
      refine ev_seq_k fun K47 hn47 hr47 he47 => ?_
      refine ev_seq_k fun K48 hn48 hr48 he48 => ?_
      refine ev_ops_k fun K49 hk49 => ?_
      refine sh1 F1 ?_
      refine sd ?_
      refine hk49 _ ?_
      refine hn48 (some ([3, 5, 9, 10, 11, 12, 13, 74, 92, 93, 96, 97, 98, 99, 100, 101, 102, 151, 152, 153, 154, 155, 156, 157, 158, 159], none)) _ ?_
      refine ev_cond_k rfl (fun hc3 => ?_) (fun hx => absurd hx (by simp at hx))
      clear hc3
      refine ev_ops_k fun K50 hk50 => ?_
      refine evL_take 1 fun K51 hk51 => ?_
      refine sh1 F1 ?_
      refine sd ?_
      refine hk51 _ ?_
      refine evL_take 1 fun K52 hk52 => ?_
      refine sh1 F1 ?_
      refine Or.inl (Or.inl ⟨_, c7, ?_⟩)
      refine hk52 _ ?_
      refine evL_take 5 fun K53 hk53 => ?_
      refine sh1 F1 ?_
      refine sd ?_
      refine hk53 _ ?_
      refine sh1 F1 ?_
      refine sd ?_
      refine hk50 _ ?_
      refine hn47 (some ([3, 5, 9, 10, 11, 12, 13, 92, 93, 96, 97, 98, 99, 100, 101, 102, 151, 152, 153, 154, 155, 156, 157, 158, 159], none)) _ ?_
      refine ev_seq_k fun K54 hn54 hr54 he54 => ?_
      refine ev_seq_k fun K55 hn55 hr55 he55 => ?_
      refine ev_ops_k fun K56 hk56 => ?_
      refine evL_take 2 fun K57 hk57 => ?_
      refine sh1 F1 ?_
      refine sd ?_
      refine hk57 _ ?_
      refine evL_take 3 fun K58 hk58 => ?_
      refine sh1 F1 ?_
      refine sd ?_
      refine hk58 _ ?_
      refine evL_take 4 fun K59 hk59 => ?_
      refine sh1 F1 ?_
      refine sd ?_
      refine hk59 _ ?_
      refine evL_take 2 fun K60 hk60 => ?_
      refine sh1 F1 ?_
      refine sd ?_
      refine hk60 _ ?_
      refine evL_take 1 fun K61 hk61 => ?_
      refine sh1 F1 ?_
      refine sd ?_
      refine hk61 _ ?_
      refine evL_take 1 fun K62 hk62 => ?_
      refine sh1 F1 ?_
      refine Or.inl ⟨_, eqsh_word_refl flagW, ?_⟩
      refine hk62 _ ?_
      refine sh1 F1 ?_
      refine hk56 _ ?_
      refine hn55 (some ([3, 5, 9, 10, 13, 103, 151, 152, 153, 154, 155, 156, 157, 158, 159], none)) _ ?_
      refine ev_cond_k rfl (fun hx => absurd hx (by simp at hx)) (fun hc4 => ?_)
      clear hc4
      refine hn54 (some ([3, 5, 9, 10, 13, 151, 152, 153, 154, 155, 156, 157, 158, 159], none)) _ ?_
      refine ev_seq_k fun K63 hn63 hr63 he63 => ?_
      refine ev_seq_k fun K64 hn64 hr64 he64 => ?_
      refine ev_ops_k fun K65 hk65 => ?_
      refine evL_take 1 fun K66 hk66 => ?_
      refine sh1 F1 ?_
      refine sd ?_
      refine hk66 _ ?_
      refine evL_take 1 fun K67 hk67 => ?_
      refine sh1 F1 ?_
      refine sd ?_
      refine hk67 _ ?_
      refine sh1 F1 ?_
      refine Or.inl ⟨_, eqsh_word_refl flagW, ?_⟩
      refine hk65 _ ?_
      refine hn64 (some ([3, 5, 10, 106, 151, 152, 153, 154, 155, 156, 157, 158, 159], none)) _ ?_
      refine ev_cond_k rfl (fun hx => absurd hx (by simp at hx)) (fun hc5 => ?_)
      clear hc5
      refine hn63 (some ([3, 5, 10, 151, 152, 153, 154, 155, 156, 157, 158, 159], none)) _ ?_
      refine ev_seq_k fun K68 hn68 hr68 he68 => ?_
      refine ev_ops_k fun K69 hk69 => ?_
      refine evL_take 1 fun K70 hk70 => ?_
      refine sh1 F1 ?_
      refine sd ?_
      refine hk70 _ ?_
      refine evL_take 2 fun K71 hk71 => ?_
      refine sh1 F1 ?_
      refine sd ?_
      refine hk71 _ ?_
      refine evL_take 1 fun K72 hk72 => ?_
      refine sh1 F1 ?_
      refine Or.inl (Or.inl ⟨_, c9, ?_⟩)
      refine hk72 _ ?_
      refine evL_take 7 fun K73 hk73 => ?_
      refine sh1 F1 ?_
      refine sd ?_
      refine hk73 _ ?_
      refine evL_take 1 fun K74 hk74 => ?_
      refine sh1 F1 ?_
      refine sd ?_
      refine hk74 _ ?_
      refine sh1 F1 ?_
      refine hk69 _ ?_
      refine hn68 (some ([3, 5, 10, 15, 151, 152, 153, 154, 155, 156, 157, 158, 159], none)) _ ?_
      refine ev_seq_k fun K75 hn75 hr75 he75 => ?_
      refine ev_seq_k fun K76 hn76 hr76 he76 => ?_
      refine ev_ops_k fun K77 hk77 => ?_
      refine evL_take 1 fun K78 hk78 => ?_
      refine sh1 F1 ?_
      refine sd ?_
      refine hk78 _ ?_
      refine evL_take 2 fun K79 hk79 => ?_
      refine sh1 F1 ?_
      refine sd ?_
      refine hk79 _ ?_
      refine sh1 F1 ?_
      refine Or.inl ⟨_, eqsh_word_refl w, ?_⟩
      refine hk77 _ ?_
      refine hn76 (some ([3, 5, 10, 118, 151, 152, 153, 154, 155, 156, 157, 158, 159], none)) _ ?_
      refine ev_cond_k rfl (fun hx => absurd hx (by simp at hx)) (fun hc6 => ?_)
      clear hc6
      refine hn75 (some ([3, 5, 10, 151, 152, 153, 154, 155, 156, 157, 158, 159], none)) _ ?_
      refine ev_seq_k fun K80 hn80 hr80 he80 => ?_
      refine ev_ops_k fun K81 hk81 => ?_
      refine evL_take 1 fun K82 hk82 => ?_
      refine sh1 F1 ?_
      refine sd ?_
      refine hk82 _ ?_
      refine evL_take 1 fun K83 hk83 => ?_
      refine sh1 F1 ?_
      refine Or.inl (Or.inl ⟨_, c10, ?_⟩)
      refine hk83 _ ?_
      refine evL_take 5 fun K84 hk84 => ?_
      refine sh1 F1 ?_
      refine sd ?_
      refine hk84 _ ?_
      refine sh1 F1 ?_
      refine hk81 _ ?_
      refine hn80 (some ([3, 5, 10, 17, 151, 152, 153, 154, 155, 156, 157, 158, 159], none)) _ ?_
      refine ev_seq_k fun K85 hn85 hr85 he85 => ?_
      refine ev_ops_k fun K86 hk86 => ?_
      refine evL_take 1 fun K87 hk87 => ?_
      refine sh1 F1 ?_
      refine sd ?_
      refine hk87 _ ?_
      refine evL_take 1 fun K88 hk88 => ?_
      refine sh1 F1 ?_
      refine sd ?_
      refine hk88 _ ?_
      refine evL_take 1 fun K89 hk89 => ?_
      refine sh1 F1 ?_
      refine sd ?_
      refine hk89 _ ?_
      refine evL_take 1 fun K90 hk90 => ?_
      refine sh1 F1 ?_
      refine Or.inl (Or.inl ⟨_, c11, ?_⟩)
      refine hk90 _ ?_
      refine evL_take 7 fun K91 hk91 => ?_
      refine sh1 F1 ?_
      refine sd ?_
      refine hk91 _ ?_
      refine evL_take 1 fun K92 hk92 => ?_
      refine sh1 F1 ?_
      refine sd ?_
      refine hk92 _ ?_
      refine sh1 F1 ?_
      refine hk86 _ ?_
      refine hn85 (some ([3, 5, 10, 20, 151, 152, 153, 154, 155, 156, 157, 158, 159], none)) _ ?_
      refine ev_seq_k fun K93 hn93 hr93 he93 => ?_
      refine ev_ops_k fun K94 hk94 => ?_
      refine evL_take 1 fun K95 hk95 => ?_
      refine sh1 F1 ?_
      refine sd ?_
      refine hk95 _ ?_
      refine evL_take 2 fun K96 hk96 => ?_
      refine sh1 F1 ?_
      refine sd ?_
      refine hk96 _ ?_
      refine evL_take 1 fun K97 hk97 => ?_
      refine sh1 F1 ?_
      refine Or.inl (Or.inl ⟨_, c12, ?_⟩)
      refine hk97 _ ?_
      refine evL_take 6 fun K98 hk98 => ?_
      refine sh1 F1 ?_
      refine sd ?_
      refine hk98 _ ?_
      refine evL_take 1 fun K99 hk99 => ?_
      refine sh1 F1 ?_
      refine sd ?_
      refine hk99 _ ?_
      refine sh1 F1 ?_
      refine hk94 _ ?_
      refine hn93 (some ([3, 5, 10, 20, 22, 151, 152, 153, 154, 155, 156, 157, 158, 159], none)) _ ?_
      refine ev_seq_k fun K100 hn100 hr100 he100 => ?_
      refine ev_ops_k fun K101 hk101 => ?_
      refine evL_take 1 fun K102 hk102 => ?_
      refine sh1 F1 ?_
      refine sd ?_
      refine hk102 _ ?_
      refine evL_take 2 fun K103 hk103 => ?_
      refine sh1 F1 ?_
      refine sd ?_
      refine hk103 _ ?_
      refine evL_take 1 fun K104 hk104 => ?_
      refine sh1 F1 ?_
      refine Or.inl (Or.inl ⟨_, c13, ?_⟩)
      refine hk104 _ ?_
      refine evL_take 7 fun K105 hk105 => ?_
      refine sh1 F1 ?_
      refine sd ?_
      refine hk105 _ ?_
      refine evL_take 1 fun K106 hk106 => ?_
      refine sh1 F1 ?_
      refine sd ?_
      refine hk106 _ ?_
      refine sh1 F1 ?_
      refine hk101 _ ?_
      refine hn100 (some ([3, 10, 20, 22, 25, 151, 152, 153, 154, 155, 156, 157, 158, 159], none)) _ ?_
      refine ev_seq_k fun K107 hn107 hr107 he107 => ?_
      refine ev_ops_k fun K108 hk108 => ?_
      refine evL_take 3 fun K109 hk109 => ?_
      refine sh1 F1 ?_
      refine sd ?_
      refine hk109 _ ?_
      refine evL_take 1 fun K110 hk110 => ?_
      refine sh1 F1 ?_
      refine sd ?_
      refine hk110 _ ?_
      refine evL_take 1 fun K111 hk111 => ?_
      refine sh1 F1 ?_
      refine Or.inl ⟨_, hE3, ?_⟩
      refine hk111 _ ?_
      refine evL_take 2 fun K112 hk112 => ?_
      refine sh1 F1 ?_
      refine sd ?_
      refine hk112 _ ?_
      refine evL_take 2 fun K113 hk113 => ?_
      refine sh1 F1 ?_
      refine sd ?_
      refine hk113 _ ?_
      refine evL_take 1 fun K114 hk114 => ?_
      refine sh1 F1 ?_
      refine Or.inl ⟨_, eqsh_word_refl _, ?_⟩
      refine hk114 _ ?_
      refine sh1 F1 ?_
      refine hk108 _ ?_
      refine hn107 (some ([4], none)) _ ?_
      exact sf1 F1
end Go.Proofs.Ytfcjkchpldfamaa
