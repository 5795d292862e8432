/-
  TaskRuns, by shadows.
-/
import Derived.Test.YtcbdgnjdpfgobaaK8g
import Derived.Test.YtcbdgnjdpfgobaaScTaskRuns
import Derived.Test.YtcbdgnjdpfgobaaMC
namespace Go.Proofs.Ytcbdgnjdpfgobaa
set_option linter.unusedSimpArgs false
set_option linter.unusedVariables false
open Go.RowKit Go.Maps

theorem madeW_ok (l : List (List ActM)) (h : l.length ≤ 4) : WorldOk (madeW l) 1 := by
  rw [(made_ok l h).2]
  refine ⟨machOk_new _ _, ?_, ?_, fun t ht => ?_⟩
  · have hv : mach0.mem.views.length = 4 := by rfl
    simp only [List.length_map]
    rw [hv]; simp [scrs]; exact h
  · simp [scrs]
  · obtain ⟨s, hs, rfl⟩ := List.mem_map.1 ht
    obtain ⟨a, _, rfl⟩ := List.mem_map.1 hs
    exact startOk (C := scr) (n := 0) (Nat.le_refl _)
theorem madeW_len (l : List (List ActM)) (h : l.length ≤ 4) : (madeW l).tasks.length = l.length := by rw [(made_ok l h).2]; simp [scrs]
theorem madeW_cod (l : List (List ActM)) : CodedW (madeW l) := codedW_make _ _
theorem step_far {C : Coder} (w : WorldM C) (h : w.tasks.length ≤ 4) : stepM w ⟨0, 5, 0⟩ = (w, false) := by
  unfold stepM
  split
  · rfl
  · rw [if_neg (by simp), if_pos (show takesM w 5 = false by unfold takesM; rw [decide_eq_false (by omega), Bool.false_and])]
theorem step_kind {C : Coder} (w : WorldM C) : stepM w ⟨3, 1, 0⟩ = (w, false) := by
  unfold stepM
  split
  · rfl
  · rw [if_neg (by simp)]
    split
    · rfl
    · rw [if_neg (by simp), if_neg (by simp)]
set_option maxHeartbeats 4000000 in
theorem ok_TaskRuns (l : List (List ActM)) (ps : List PickV) (n : Int) (hl : l.length ≤ 9223372036854775807) (hp : ps.length ≤ 9223372036854775807) (hn : IntKind.u8.min ≤ n ∧ n ≤ IntKind.u8.max) : Ok 5 [.sl 1 2 (l.map eA1), .sl 3 2 (ps.map ePick), .v (.int .u8 n)] (sB true) := by
  refine ok_of_tr Try.func5 tr_TaskRuns rfl ?_
  have ka := ok_l8awake
  by_cases hs : Small l ps
  case neg =>
    have k0 := ok_great_yes 2 l 2 ps hs hl
    unfold evFn sc_TaskRuns rv_TaskRuns
    refine ev_seq_k fun K1 hn1 hr1 he1 => ?_
    refine ev_ops_k fun K2 hk2 => ?_
    refine sh0 ?_
    refine hk2 _ ?_
    refine hn1 (some ([0, 1, 2], none)) _ ?_
    refine ev_seq_k fun K3 hn3 hr3 he3 => ?_
    refine ev_seq_k fun K4 hn4 hr4 he4 => ?_
    refine ev_ops_k fun K5 hk5 => ?_
    refine evL_take 2 fun K6 hk6 => ?_
    refine sh0 ?_
    refine hk6 _ ?_
    refine sh0 ?_
    refine Or.inl (Or.inl ⟨_, k0, ?_⟩)
    refine hk5 _ ?_
    refine hn4 (some ([0, 1, 2, 19], none)) _ ?_
    refine ev_cond_k rfl (fun hc0 => ?_) (fun hx => absurd hx (by simp at hx))
    clear hc0
    refine ev_seq_k fun K7 hn7 hr7 he7 => ?_
    refine ev_ops_k fun K8 hk8 => ?_
    refine evL_take 1 fun K9 hk9 => ?_
    refine sh0 ?_
    refine Or.inl (Or.inl ⟨_, ka, ?_⟩)
    refine hk9 _ ?_
    refine sh0 ?_
    refine hk8 _ ?_
    refine hn7 (some ([6], none)) _ ?_
    refine hr3 _ ?_
    exact sf0
  have k0 := ok_great_no 2 l 2 ps hs
  obtain ⟨_, hl4, hp4⟩ := hs
  have k2 := ok_l8made 2 l hl4
  have hW := madeW_ok l hl4
  have hC := madeW_cod l
  have hlen := madeW_len l hl4
  have hn0 : 0 ≤ n := hn.1
  obtain ⟨k, rfl⟩ := Int.eq_ofNat_of_zero_le hn0
  have hk : (k : Int) ≤ 255 := hn.2
  generalize madeW l = W at k2 hW hC hlen
  obtain ⟨c, hc⟩ : ∃ c, c = k % (ps.length + 1) := ⟨_, rfl⟩
  have hcl : c ≤ ps.length := by rw [hc]; exact Nat.le_of_lt_succ (Nat.mod_lt _ (by omega))
  have r1 : (k : Int).tmod ((ps.length + 1 : Nat) : Int) = (c : Int) := by rw [Int.tmod_eq_emod_of_nonneg (by omega), hc]; rfl
  have r0 : IntKind.i64.wrap (k : Int) = (k : Int) := by rw [IntKind.wrap_i64]; omega
  have r2 : IntKind.i64.wrap ((ps.length : Int) + 1) = ((ps.length + 1 : Nat) : Int) := by rw [IntKind.wrap_i64]; omega
  have r3 : ¬ ((ps.length + 1 : Nat) : Int) = 0 := by omega
  clear hc
  have k3 := ok_kRun W 2 ps hW (by omega)
  have e4 : (ps.map ePick).take c = (ps.take c).map ePick := by rw [List.map_take]
  have e5 : (ps.map ePick).drop c = (ps.drop c).map ePick := by rw [List.map_drop]
  have hR := runOk (ps.take c) hW
  have k4 := ok_kRun W 2 (ps.take c) hW (by simp; omega)
  have k5 := ok_kRun (runW W (ps.take c)) 2 (ps.drop c) hR (by simp; omega)
  rw [← runW_app, List.take_append_drop] at k5
  have k6 := ok_kStep W ⟨0, 5, 0⟩ hW (by decide)
  rw [step_far W (by omega)] at k6
  have k7 := ok_kStep W ⟨3, 1, 0⟩ hW (by decide)
  rw [step_kind] at k7
  have k8 := ok_l8alike (runW W ps) (runOk ps hW) (codedW_run ps hC) (by omega)
  have k9 := ok_l8alike W hW hC (by decide)
  generalize runW W (ps.take c) = Q at k4 k5
  generalize runW W ps = R at k3 k5 k8
  have q1 : (c : Int) ≤ (ps.length : Int) := by omega
  have w1 : (List.take c (ps.map ePick)).drop 0 = (ps.take c).map ePick := by rw [List.drop_zero, e4]
  have w2 : ((ps.map ePick).take ps.length).drop c = (ps.drop c).map ePick := by rw [List.take_of_length_le (by simp), e5]
  unfold evFn sc_TaskRuns rv_TaskRuns
  have F1 := And.intro @r0 (And.intro @r1 (And.intro @r2 (And.intro @r3 (And.intro @q1 (And.intro @e4 (And.intro @e5 (And.intro @w1 @w2)))))))
  refine ev_seq_k fun K1 hn1 hr1 he1 => ?_
  refine ev_ops_k fun K2 hk2 => ?_
  refine sh1 F1 ?_
  refine hk2 _ ?_
  refine hn1 (some ([0, 1, 2], none)) _ ?_
  refine ev_seq_k fun K3 hn3 hr3 he3 => ?_
  refine ev_seq_k fun K4 hn4 hr4 he4 => ?_
  refine ev_ops_k fun K5 hk5 => ?_
  refine evL_take 2 fun K6 hk6 => ?_
  refine sh1 F1 ?_
  refine hk6 _ ?_
  refine sh1 F1 ?_
  refine Or.inl (Or.inl ⟨_, k0, ?_⟩)
  refine hk5 _ ?_
  refine hn4 (some ([0, 1, 2, 19], none)) _ ?_
  refine ev_cond_k rfl (fun hx => absurd hx (by simp at hx)) (fun hc0 => ?_)
  clear hc0
  refine hn3 (some ([0, 1, 2], none)) _ ?_
  refine ev_seq_k fun K7 hn7 hr7 he7 => ?_
  refine ev_ops_k fun K8 hk8 => ?_
  refine evL_take 1 fun K9 hk9 => ?_
  refine sh1 F1 ?_
  refine hk9 _ ?_
  refine evL_take 1 fun K10 hk10 => ?_
  refine sh1 F1 ?_
  refine Or.inl (Or.inl ⟨_, k2, ?_⟩)
  refine hk10 _ ?_
  refine evL_take 6 fun K11 hk11 => ?_
  refine sh1 F1 ?_
  refine sd ?_
  refine hk11 _ ?_
  refine sh1 F1 ?_
  refine hk8 _ ?_
  refine hn7 (some ([1, 2, 7, 9], none)) _ ?_
  refine ev_seq_k fun K12 hn12 hr12 he12 => ?_
  refine ev_seq_k fun K13 hn13 hr13 he13 => ?_
  refine ev_ops_k fun K14 hk14 => ?_
  refine sh1 F1 ?_
  refine hk14 _ ?_
  refine hn13 (some ([1, 2, 7, 28], none)) _ ?_
  refine ev_cond_k rfl (fun hx => absurd hx (by simp at hx)) (fun hc1 => ?_)
  clear hc1
  refine hn12 (some ([1, 2, 7], none)) _ ?_
  refine ev_seq_k fun K15 hn15 hr15 he15 => ?_
  refine ev_ops_k fun K16 hk16 => ?_
  refine evL_take 5 fun K17 hk17 => ?_
  refine sh1 F1 ?_
  refine sd ?_
  refine hk17 _ ?_
  refine evL_take 1 fun K18 hk18 => ?_
  refine sh1 F1 ?_
  refine sd ?_
  refine hk18 _ ?_
  refine sh1 F1 ?_
  refine hk16 _ ?_
  refine hn15 (some ([1, 7, 10], none)) _ ?_
  refine ev_seq_k fun K19 hn19 hr19 he19 => ?_
  refine ev_ops_k fun K20 hk20 => ?_
  refine evL_take 1 fun K21 hk21 => ?_
  refine sh1 F1 ?_
  refine sd ?_
  refine hk21 _ ?_
  refine evL_take 1 fun K22 hk22 => ?_
  refine sh1 F1 ?_
  refine hk22 _ ?_
  refine evL_take 1 fun K23 hk23 => ?_
  refine sh1 F1 ?_
  refine Or.inl (Or.inl ⟨_, k3, ?_⟩)
  refine hk23 _ ?_
  refine sh1 F1 ?_
  refine sd ?_
  refine hk20 _ ?_
  refine hn19 (some ([1, 7, 10, 11], none)) _ ?_
  refine ev_seq_k fun K24 hn24 hr24 he24 => ?_
  refine ev_drw_k [] (n := 10) fun K25 hk25 => ?_
  refine sq0 ?_
  refine evF_take 1 fun K27 hk27 => ?_
  refine sh1 F1 ?_
  refine sd ?_
  refine hk27 _ _ _ ?_
  refine evF_take 3 fun K28 hk28 => ?_
  refine sh1 F1 ?_
  refine sd ?_
  refine hk28 _ _ _ ?_
  refine evF_take 1 fun K29 hk29 => ?_
  refine sh1 F1 ?_
  refine ⟨_, k4, ?_⟩
  refine hk29 _ _ _ ?_
  refine evF_take 3 fun K30 hk30 => ?_
  refine sh1 F1 ?_
  refine sd ?_
  refine hk30 _ _ _ ?_
  refine evF_take 1 fun K31 hk31 => ?_
  refine sh1 F1 ?_
  refine ⟨_, k5, ?_⟩
  refine hk31 _ _ _ ?_
  refine sh1 F1 ?_
  refine hk25 _ ?_
  refine sr0 ?_
  refine sh1 F1 ?_
  refine sd ?_
  refine hn24 (some ([7, 11, 12], none)) _ ?_
  refine ev_seq_k fun K32 hn32 hr32 he32 => ?_
  refine ev_ops_k fun K33 hk33 => ?_
  refine evL_take 1 fun K34 hk34 => ?_
  refine sh1 F1 ?_
  refine sd ?_
  refine hk34 _ ?_
  refine evL_take 1 fun K35 hk35 => ?_
  refine sh1 F1 ?_
  refine hk35 _ ?_
  refine evL_take 1 fun K36 hk36 => ?_
  refine sh1 F1 ?_
  refine Or.inl (Or.inl ⟨_, k6, ?_⟩)
  refine hk36 _ ?_
  refine evL_take 5 fun K37 hk37 => ?_
  refine sh1 F1 ?_
  refine sd ?_
  refine hk37 _ ?_
  refine sh1 F1 ?_
  refine hk33 _ ?_
  refine hn32 (some ([7, 11, 12, 13, 14], none)) _ ?_
  refine ev_seq_k fun K38 hn38 hr38 he38 => ?_
  refine ev_ops_k fun K39 hk39 => ?_
  refine evL_take 1 fun K40 hk40 => ?_
  refine sh1 F1 ?_
  refine sd ?_
  refine hk40 _ ?_
  refine evL_take 1 fun K41 hk41 => ?_
  refine sh1 F1 ?_
  refine hk41 _ ?_
  refine evL_take 1 fun K42 hk42 => ?_
  refine sh1 F1 ?_
  refine Or.inl (Or.inl ⟨_, k7, ?_⟩)
  refine hk42 _ ?_
  refine evL_take 5 fun K43 hk43 => ?_
  refine sh1 F1 ?_
  refine sd ?_
  refine hk43 _ ?_
  refine sh1 F1 ?_
  refine hk39 _ ?_
  refine hn38 (some ([7, 11, 12, 13, 14, 15, 16], none)) _ ?_
  refine ev_seq_k fun K44 hn44 hr44 he44 => ?_
  refine ev_seq_k fun K45 hn45 hr45 he45 => ?_
  refine ev_ops_k fun K46 hk46 => ?_
  refine evL_take 6 fun K47 hk47 => ?_
  refine sh1 F1 ?_
  refine sd ?_
  refine hk47 _ ?_
  refine evL_take 1 fun K48 hk48 => ?_
  refine sh1 F1 ?_
  refine sd ?_
  refine hk48 _ ?_
  refine evL_take 1 fun K49 hk49 => ?_
  refine sh1 F1 ?_
  refine Or.inl (Or.inl ⟨_, k8, ?_⟩)
  refine hk49 _ ?_
  refine evL_take 4 fun K50 hk50 => ?_
  refine sh1 F1 ?_
  refine sd ?_
  refine hk50 _ ?_
  refine evL_take 1 fun K51 hk51 => ?_
  refine sh1 F1 ?_
  refine sd ?_
  refine hk51 _ ?_
  refine evL_take 1 fun K52 hk52 => ?_
  refine sh1 F1 ?_
  refine Or.inl (Or.inl ⟨_, k9, ?_⟩)
  refine hk52 _ ?_
  refine evL_take 4 fun K53 hk53 => ?_
  refine sh1 F1 ?_
  refine sd ?_
  refine hk53 _ ?_
  refine evL_take 1 fun K54 hk54 => ?_
  refine sh1 F1 ?_
  refine sd ?_
  refine hk54 _ ?_
  refine evL_take 1 fun K55 hk55 => ?_
  refine sh1 F1 ?_
  refine Or.inl (Or.inl ⟨_, k9, ?_⟩)
  refine hk55 _ ?_
  refine sh1 F1 ?_
  refine hk46 _ ?_
  refine hn45 (some ([80], none)) _ ?_
  refine ev_cond_k rfl (fun hx => absurd hx (by simp at hx)) (fun hc2 => ?_)
  clear hc2
  refine hn44 (some ([], none)) _ ?_
  refine ev_seq_k fun K56 hn56 hr56 he56 => ?_
  refine ev_ops_k fun K57 hk57 => ?_
  refine evL_take 1 fun K58 hk58 => ?_
  refine sh1 F1 ?_
  refine Or.inl (Or.inl ⟨_, ka, ?_⟩)
  refine hk58 _ ?_
  refine sh1 F1 ?_
  refine hk57 _ ?_
  refine hn56 (some ([6], none)) _ ?_
  exact sf1 F1
end Go.Proofs.Ytcbdgnjdpfgobaa
