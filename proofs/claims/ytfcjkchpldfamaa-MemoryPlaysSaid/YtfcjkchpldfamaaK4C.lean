/-
  MemoryPlays: the walk.
-/
import Derived.Test.YtfcjkchpldfamaaK4z
import Derived.Test.YtfcjkchpldfamaaK4A
import Derived.Test.YtfcjkchpldfamaaK4B
import Derived.Test.YtfcjkchpldfamaaScMemoryPlays
import Derived.Test.YtfcjkchpldfamaaMC
namespace Go.Proofs.Ytfcjkchpldfamaa
set_option linter.unusedSimpArgs false
set_option linter.unusedVariables false
open Go.RowKit Go.Maps

def PlInv (k : Int) (g : Nat) (ws : List WordV) (g2 : Nat) (ds : List DoV) (M : MemM) (m : Nat) (S : St) : Prop :=
  ∃ i, i ≤ ds.length ∧ m = ds.length - i ∧ S = ⟨[(1, .ptr 0 0 0), (3, .ptr 1 0 0), (5, .ptr 2 0 0), (7, sI i)], [(0, .box 25 (cCase k g ws g2 ds)), (1, boxM (runB M ds i)), (2, boxR (refOf (runB M ds i)))], 3⟩
set_option maxHeartbeats 8000000 in
theorem ok_MemoryPlays (k : Int) (g : Nat) (ws : List WordV) (g2 : Nat) (ds : List DoV) : Ok 4 [.agg (cCase k g ws g2 ds)] (sB true) := by
  refine ok_of_tr Try.func4 tr_MemoryPlays rfl ?_
  have c1 := ok_l4few k g ws g2 ds
  by_cases hf : ws.length ≤ 8 ∧ ds.length ≤ 40
  case neg =>
    rw [show decide (ws.length ≤ 8 ∧ ds.length ≤ 40) = false from decide_eq_false hf] at c1
    unfold evFn sc_MemoryPlays rv_MemoryPlays
    refine ev_seq_k fun K1 hn1 hr1 he1 => ?_
    refine ev_ops_k fun K2 hk2 => ?_
    refine sh0 ?_
    refine hk2 _ ?_
    refine hn1 (some ([1], none)) _ ?_
    refine ev_seq_k fun K3 hn3 hr3 he3 => ?_
    refine ev_seq_k fun K4 hn4 hr4 he4 => ?_
    refine ev_ops_k fun K5 hk5 => ?_
    refine evL_take 1 fun K6 hk6 => ?_
    refine sh0 ?_
    refine Or.inl (Or.inl ⟨_, ok_l4awake, ?_⟩)
    refine hk6 _ ?_
    refine sh0 ?_
    refine hk5 _ ?_
    refine hn4 (some ([1, 18], none)) _ ?_
    refine ev_cond_k rfl (fun hx => absurd hx (by simp at hx)) (fun hc0 => ?_)
    clear hc0
    refine hn3 (some ([1], none)) _ ?_
    refine ev_seq_k fun K7 hn7 hr7 he7 => ?_
    refine ev_seq_k fun K8 hn8 hr8 he8 => ?_
    refine ev_ops_k fun K9 hk9 => ?_
    refine evL_take 1 fun K10 hk10 => ?_
    refine sh0 ?_
    refine sd ?_
    refine hk10 _ ?_
    refine evL_take 1 fun K11 hk11 => ?_
    refine sh0 ?_
    refine Or.inl (Or.inl ⟨_, c1, ?_⟩)
    refine hk11 _ ?_
    refine sh0 ?_
    refine hk9 _ ?_
    refine hn8 (some ([1, 21], none)) _ ?_
    refine ev_cond_k rfl (fun hc1 => ?_) (fun hx => absurd hx (by simp at hx))
    clear hc1
    refine ev_seq_k fun K12 hn12 hr12 he12 => ?_
    refine ev_ops_k fun K13 hk13 => ?_
    refine sh0 ?_
    refine hk13 _ ?_
    refine hn12 (some ([2], none)) _ ?_
    refine hr7 _ ?_
    exact sf0
  rw [show decide (ws.length ≤ 8 ∧ ds.length ≤ 40) = true from decide_eq_true hf] at c1
  have c2 := ok_mNew k g ws
  have c3 := ok_r4New k g ws
  have hM := memOk_new k ws
  have hI0 := memIn_new k ws
  generalize mnewM k ws = R at c2 c3 hM hI0
  obtain ⟨M, e⟩ := R
  simp only at c2 c3 hM hI0
  have c4 := ok_l4same M hM (by omega)
  unfold evFn sc_MemoryPlays rv_MemoryPlays
  refine ev_seq_k fun K1 hn1 hr1 he1 => ?_
  refine ev_ops_k fun K2 hk2 => ?_
  refine sh0 ?_
  refine hk2 _ ?_
  refine hn1 (some ([1], none)) _ ?_
  refine ev_seq_k fun K3 hn3 hr3 he3 => ?_
  refine ev_seq_k fun K4 hn4 hr4 he4 => ?_
  refine ev_ops_k fun K5 hk5 => ?_
  refine evL_take 1 fun K6 hk6 => ?_
  refine sh0 ?_
  refine Or.inl (Or.inl ⟨_, ok_l4awake, ?_⟩)
  refine hk6 _ ?_
  refine sh0 ?_
  refine hk5 _ ?_
  refine hn4 (some ([1, 18], none)) _ ?_
  refine ev_cond_k rfl (fun hx => absurd hx (by simp at hx)) (fun hc0 => ?_)
  clear hc0
  refine hn3 (some ([1], none)) _ ?_
  refine ev_seq_k fun K7 hn7 hr7 he7 => ?_
  refine ev_seq_k fun K8 hn8 hr8 he8 => ?_
  refine ev_ops_k fun K9 hk9 => ?_
  refine evL_take 1 fun K10 hk10 => ?_
  refine sh0 ?_
  refine sd ?_
  refine hk10 _ ?_
  refine evL_take 1 fun K11 hk11 => ?_
  refine sh0 ?_
  refine Or.inl (Or.inl ⟨_, c1, ?_⟩)
  refine hk11 _ ?_
  refine sh0 ?_
  refine hk9 _ ?_
  refine hn8 (some ([1, 21], none)) _ ?_
  refine ev_cond_k rfl (fun hx => absurd hx (by simp at hx)) (fun hc1 => ?_)
  clear hc1
  refine hn7 (some ([1], none)) _ ?_
  refine ev_seq_k fun K12 hn12 hr12 he12 => ?_
  refine ev_ops_k fun K13 hk13 => ?_
  refine evL_take 2 fun K14 hk14 => ?_
  refine sh0 ?_
  refine sd ?_
  refine hk14 _ ?_
  refine evL_take 2 fun K15 hk15 => ?_
  refine sh0 ?_
  refine sd ?_
  refine hk15 _ ?_
  refine evL_take 1 fun K16 hk16 => ?_
  refine sh0 ?_
  refine Or.inl (Or.inl ⟨_, c2, ?_⟩)
  refine hk16 _ ?_
  refine evL_take 5 fun K17 hk17 => ?_
  refine sh0 ?_
  refine sd ?_
  refine hk17 _ ?_
  refine sh0 ?_
  refine hk13 _ ?_
  refine hn12 (some ([1, 3, 4], none)) _ ?_
  refine ev_seq_k fun K18 hn18 hr18 he18 => ?_
  refine ev_ops_k fun K19 hk19 => ?_
  refine evL_take 2 fun K20 hk20 => ?_
  refine sh0 ?_
  refine sd ?_
  refine hk20 _ ?_
  refine evL_take 2 fun K21 hk21 => ?_
  refine sh0 ?_
  refine sd ?_
  refine hk21 _ ?_
  refine evL_take 1 fun K22 hk22 => ?_
  refine sh0 ?_
  refine Or.inl (Or.inl ⟨_, c3, ?_⟩)
  refine hk22 _ ?_
  refine evL_take 5 fun K23 hk23 => ?_
  refine sh0 ?_
  refine sd ?_
  refine hk23 _ ?_
  refine sh0 ?_
  refine hk19 _ ?_
  refine hn18 (some ([1, 3, 4, 5, 6], none)) _ ?_
  refine ev_seq_k fun K24 hn24 hr24 he24 => ?_
  refine ev_seq_k fun K25 hn25 hr25 he25 => ?_
  refine ev_ops_k fun K26 hk26 => ?_
  refine evL_take 3 fun K27 hk27 => ?_
  refine sh0 ?_
  refine sd ?_
  refine hk27 _ ?_
  refine evL_take 2 fun K28 hk28 => ?_
  refine sh0 ?_
  refine sd ?_
  refine hk28 _ ?_
  refine evL_take 1 fun K29 hk29 => ?_
  refine sh0 ?_
  refine sd ?_
  refine hk29 _ ?_
  refine evL_take 1 fun K30 hk30 => ?_
  refine sh0 ?_
  refine Or.inl (Or.inl ⟨_, c4, ?_⟩)
  refine hk30 _ ?_
  refine sh0 ?_
  refine hk26 _ ?_
  refine hn25 (some ([1, 3, 5, 46], none)) _ ?_
  refine ev_cond_k rfl (fun hx => absurd hx (by simp at hx)) (fun hc2 => ?_)
  clear hc2
  refine hn24 (some ([1, 3, 5], none)) _ ?_
  refine ev_seq_k fun K31 hn31 hr31 he31 => ?_
  refine ev_seq_k fun K32 hn32 hr32 he32 => ?_
  refine ev_ops_k fun K33 hk33 => ?_
  refine sh0 ?_
  refine hk33 _ ?_
  refine hn32 (some ([1, 3, 5, 7], none)) _ ?_
  refine ev_block_k fun K34 hn34 hx34 hr34 he34 => ?_
  refine ev_loop_k (PlInv k g ws g2 ds M) (ds.length) (some ([1, 3, 5, 7], some ([0, 1, 2], 3))) ([]) ?_ ?_
  · try refine lp0 ?_
    exact ⟨0, by omega, by omega, by rfl⟩
  · intro k S1 hI
    obtain ⟨i, hi, rfl, rfl⟩ := hI
    have hcase : i = ds.length ∨ i < ds.length := by omega
    intro K35 hn35 hr35 he35
    rcases hcase with hcc | hcc
    · skip
      have w2 : ¬ (i : Int) < (ds.length : Int) := by omega
      have F1 := @w2
      refine ev_seq_k fun K36 hn36 hr36 he36 => ?_
      refine ev_seq_k fun K37 hn37 hr37 he37 => ?_
      refine ev_ops_k fun K38 hk38 => ?_
      refine evL_take 3 fun K39 hk39 => ?_
      refine sh1 F1 ?_
      refine sd ?_
      refine hk39 _ ?_
      refine sh1 F1 ?_
      refine sd ?_
      refine hk38 _ ?_
      refine hn37 (some ([1, 3, 5, 7, 51], none)) _ ?_
      refine ev_cond_k rfl (fun hx => absurd hx (by simp at hx)) (fun hc3 => ?_)
      clear hc3
      refine he36 0 _ ?_
      refine he35 0 _ ?_
      refine hx34 _ ?_
      refine hn31 (some ([], none)) _ ?_
      refine ev_seq_k fun K40 hn40 hr40 he40 => ?_
      refine ev_ops_k fun K41 hk41 => ?_
      refine sh1 F1 ?_
      refine hk41 _ ?_
      refine hn40 (some ([2], none)) _ ?_
      exact sf1 F1
    · skip
      skip
      have w2 : (i : Int) < (ds.length : Int) := by omega
      have w3 : IntKind.i64.wrap ((i : Int) + 1) = ((i + 1 : Nat) : Int) := by rw [IntKind.wrap_i64]; omega
      obtain ⟨x, hxi⟩ : ∃ x, ds[i]? = some x := ⟨_, List.getElem?_eq_getElem hcc⟩
      have hMi := memOk_run hM ds i
      have hIi := memIn_run hM hI0 ds i
      have d1 := ok_l4do _ x hMi (by omega)
      have d2 := ok_r4Do _ x hMi (by omega) hIi
      have d3 := ok_l4same _ (memOk_do hMi x) (by omega)
      have d4 := ok_l4same _ hMi (by omega)
      have hs := runB_succ (M := M) hxi
      generalize do4M (runB M ds i) x = Q at d1 d2 d3 hs
      generalize runB M ds i = B at d1 d2 d4
      have F2 := And.intro @w2 (And.intro @w3 @hxi)
      refine ev_seq_k fun K42 hn42 hr42 he42 => ?_
      refine ev_seq_k fun K43 hn43 hr43 he43 => ?_
      refine ev_ops_k fun K44 hk44 => ?_
      refine evL_take 3 fun K45 hk45 => ?_
      refine sh1 F2 ?_
      refine sd ?_
      refine hk45 _ ?_
      refine sh1 F2 ?_
      refine sd ?_
      refine hk44 _ ?_
      refine hn43 (some ([1, 3, 5, 7, 51], none)) _ ?_
      refine ev_cond_k rfl (fun hc3 => ?_) (fun hx => absurd hx (by simp at hx))
      clear hc3
      refine hn42 (some ([1, 3, 5, 7], none)) _ ?_
      refine ev_seq_k fun K46 hn46 hr46 he46 => ?_
      refine ev_block_k fun K47 hn47 hx47 hr47 he47 => ?_
      refine ev_seq_k fun K48 hn48 hr48 he48 => ?_
      refine ev_ops_k fun K49 hk49 => ?_
      refine evL_take 2 fun K50 hk50 => ?_
      refine sh1 F2 ?_
      refine sd ?_
      refine hk50 _ ?_
      refine evL_take 2 fun K51 hk51 => ?_
      refine sh1 F2 ?_
      refine sd ?_
      refine hk51 _ ?_
      refine evL_take 1 fun K52 hk52 => ?_
      refine sh1 F2 ?_
      refine sd ?_
      refine hk52 _ ?_
      refine sh1 F2 ?_
      refine sd ?_
      refine hk49 _ ?_
      refine hn48 (some ([1, 3, 5, 7, 8], none)) _ ?_
      refine ev_seq_k fun K53 hn53 hr53 he53 => ?_
      refine ev_ops_k fun K54 hk54 => ?_
      refine evL_take 1 fun K55 hk55 => ?_
      refine sh1 F2 ?_
      refine sd ?_
      refine hk55 _ ?_
      refine evL_take 1 fun K56 hk56 => ?_
      refine sh1 F2 ?_
      refine sd ?_
      refine hk56 _ ?_
      refine evL_take 1 fun K57 hk57 => ?_
      refine sh1 F2 ?_
      refine Or.inl (Or.inl ⟨_, d1, ?_⟩)
      refine hk57 _ ?_
      refine evL_take 8 fun K58 hk58 => ?_
      refine sh1 F2 ?_
      refine sd ?_
      refine hk58 _ ?_
      refine evL_take 1 fun K59 hk59 => ?_
      refine sh1 F2 ?_
      refine sd ?_
      refine hk59 _ ?_
      refine sh1 F2 ?_
      refine hk54 _ ?_
      refine hn53 (some ([1, 3, 5, 7, 8, 9, 10, 11, 12], none)) _ ?_
      refine ev_seq_k fun K60 hn60 hr60 he60 => ?_
      refine ev_ops_k fun K61 hk61 => ?_
      refine evL_take 1 fun K62 hk62 => ?_
      refine sh1 F2 ?_
      refine sd ?_
      refine hk62 _ ?_
      refine evL_take 2 fun K63 hk63 => ?_
      refine sh1 F2 ?_
      refine sd ?_
      refine hk63 _ ?_
      refine evL_take 2 fun K64 hk64 => ?_
      refine sh1 F2 ?_
      refine sd ?_
      refine hk64 _ ?_
      refine evL_take 2 fun K65 hk65 => ?_
      refine sh1 F2 ?_
      refine sd ?_
      refine hk65 _ ?_
      refine evL_take 1 fun K66 hk66 => ?_
      refine sh1 F2 ?_
      refine Or.inl (Or.inl ⟨_, d2, ?_⟩)
      refine hk66 _ ?_
      refine evL_take 8 fun K67 hk67 => ?_
      refine sh1 F2 ?_
      refine sd ?_
      refine hk67 _ ?_
      refine evL_take 1 fun K68 hk68 => ?_
      refine sh1 F2 ?_
      refine sd ?_
      refine hk68 _ ?_
      refine sh1 F2 ?_
      refine hk61 _ ?_
      refine hn60 (some ([1, 3, 5, 7, 9, 10, 11, 12, 13, 14, 15, 16], none)) _ ?_
      refine ev_seq_k fun K69 hn69 hr69 he69 => ?_
      refine ev_seq_k fun K70 hn70 hr70 he70 => ?_
      refine ev_ops_k fun K71 hk71 => ?_
      refine evL_take 1 fun K72 hk72 => ?_
      refine sh1 F2 ?_
      refine sd ?_
      refine hk72 _ ?_
      refine evL_take 1 fun K73 hk73 => ?_
      refine sh1 F2 ?_
      refine sd ?_
      refine hk73 _ ?_
      refine evL_take 1 fun K74 hk74 => ?_
      refine sh1 F2 ?_
      refine Or.inl ⟨_, eqsh_word_refl _, ?_⟩
      refine hk74 _ ?_
      refine evL_take 3 fun K75 hk75 => ?_
      refine sh1 F2 ?_
      refine hk75 _ ?_
      refine evL_take 1 fun K76 hk76 => ?_
      refine sh1 F2 ?_
      refine Or.inl ⟨_, eqsh_bool _ _, ?_⟩
      refine hk76 _ ?_
      refine evL_take 5 fun K77 hk77 => ?_
      refine sh1 F2 ?_
      refine sd ?_
      refine hk77 _ ?_
      refine evL_take 3 fun K78 hk78 => ?_
      refine sh1 F2 ?_
      refine sd ?_
      refine hk78 _ ?_
      refine evL_take 1 fun K79 hk79 => ?_
      refine sh1 F2 ?_
      refine sd ?_
      refine hk79 _ ?_
      refine evL_take 1 fun K80 hk80 => ?_
      refine sh1 F2 ?_
      refine Or.inl (Or.inl ⟨_, d3, ?_⟩)
      refine hk80 _ ?_
      refine evL_take 4 fun K81 hk81 => ?_
      refine sh1 F2 ?_
      refine sd ?_
      refine hk81 _ ?_
      refine evL_take 1 fun K82 hk82 => ?_
      refine sh1 F2 ?_
      refine sd ?_
      refine hk82 _ ?_
      refine evL_take 1 fun K83 hk83 => ?_
      refine sh1 F2 ?_
      refine Or.inl (Or.inl ⟨_, d4, ?_⟩)
      refine hk83 _ ?_
      refine sh1 F2 ?_
      refine hk71 _ ?_
      refine hn70 (some ([1, 3, 5, 7, 9, 13, 104], none)) _ ?_
      refine ev_cond_k rfl (fun hx => absurd hx (by simp at hx)) (fun hc4 => ?_)
      clear hc4
      refine hn69 (some ([1, 3, 5, 7, 9, 13], none)) _ ?_
      refine ev_ord_i ([]) [1, 3, 5, 7] [0, 1] [2, 3] (by kernel_rfl) (fun K84 hk84 => ?_)
      refine sp0 ?_
      have F3 := And.intro F2 @shPP
      refine evP_take 1 fun K85 hk85 => ?_
      refine sh1 F3 ?_
      refine sd ?_
      refine hk85 _ ?_
      refine sh1 F3 ?_
      refine sd ?_
      refine hk84 _ (by rfl) (fun K86 hk86 => ?_)
      refine sp0 ?_
      refine evL_take 1 fun K87 hk87 => ?_
      refine sh1 F3 ?_
      refine sd ?_
      refine hk87 _ ?_
      refine sh1 F3 ?_
      refine sd ?_
      refine hk86 _ ?_
      refine so0 ?_
      refine hn47 _ ?_
      refine hn46 (some ([1, 3, 5, 7], none)) _ ?_
      refine ev_ops_k fun K88 hk88 => ?_
      refine evL_take 2 fun K89 hk89 => ?_
      refine sh1 F3 ?_
      refine sd ?_
      refine hk89 _ ?_
      refine sh1 F3 ?_
      refine hk88 _ ?_
      refine hn35 (ds.length - (i + 1)) (some ([1, 3, 5, 7], some ([0, 1, 2], 3))) _ ?_ ?_
      all_goals try refine lp0 ?_
      · omega
      · exact ⟨i + 1, by omega, by omega, by rw [hs]⟩
end Go.Proofs.Ytfcjkchpldfamaa
