/-
  TaskMakes, by shadows.
-/
import Derived.Test.YtcbdgnjdpfgobaaK8g
import Derived.Test.YtcbdgnjdpfgobaaScTaskMakes
import Derived.Test.YtcbdgnjdpfgobaaMC
namespace Go.Proofs.Ytcbdgnjdpfgobaa
set_option linter.unusedSimpArgs false
set_option linter.unusedVariables false
open Go.RowKit Go.Maps

def zScr : ScrV := ⟨0, [], [], false⟩
abbrev eZ : List Sh := [.ifc 44 (.agg [.sl 8 0 [], .sl 4 0 [], sB false])]
theorem eS1_zs (j : Nat) : (List.replicate j zScr).map eS1 = List.replicate j eZ := by rw [List.map_replicate]; rfl
def mach1 : MachM := (cnewM 3 [zWord]).1
def TmInv (k : Nat) (m : Nat) (S : St) : Prop :=
  ∃ i : Nat, i ≤ k % 8 ∧ m = k % 8 - i ∧ S = ⟨[(0, .v (.int .u8 (k : Int))), (3, .ptr 0 0 0), (4, sI 0), (5, .own 1), (6, sI i)], [(0, .box 33 (cMach mach1)), (1, .row 54 1 (List.replicate i eZ))], 2⟩
theorem done_zs (j : Nat) (st : List Bool) : doneW (C := scr) ⟨mach1, (List.replicate j zScr).map (startM (C := scr)), st⟩ = true := by
  unfold doneW
  refine List.all_eq_true.2 fun i hi => ?_
  have : liveAt (C := scr) ⟨mach1, (List.replicate j zScr).map (startM (C := scr)), st⟩ i = false := by
    unfold liveAt
    simp only [List.map_replicate, List.getElem?_replicate]
    split
    · rfl
    · rfl
  rw [this]; rfl
set_option maxHeartbeats 4000000 in
theorem ok_TaskMakes (n : Int) (hn : IntKind.u8.min ≤ n ∧ n ≤ IntKind.u8.max) : Ok 3 [.v (.int .u8 n)] (sB true) := by
  refine ok_of_tr Try.func3 tr_TaskMakes rfl ?_
  have hn0 : 0 ≤ n := hn.1
  obtain ⟨k, rfl⟩ := Int.eq_ofNat_of_zero_le hn0
  have hk8 : k % 8 < 8 := Nat.mod_lt _ (by decide)
  have k0 := ok_cNew 3 0 [zWord]
  have e0 : (cnewM 3 [zWord]).2 = 0 := rfl
  rw [e0] at k0
  change Ok _ _ (.tup [eMach mach1, sI 0]) at k0
  simp only [zWord, List.map_cons, List.map_nil] at k0
  have k1 := ok_kMake (C := scr) mach1 0 (List.replicate (k % 8) zScr) (by decide) (n := 0) (fun s hs => by
    rw [List.eq_of_mem_replicate hs]; exact Nat.le_refl _) (by decide)
  rw [eC1_scr, eS1_zs] at k1
  have hv : mach1.mem.views.length = 3 := rfl
  have ka := ok_l8awake
  have r1 : (k : Int).tmod 8 = ((k % 8 : Nat) : Int) := by rw [Int.tmod_eq_emod_of_nonneg (by omega)]; rfl
  have r2 : IntKind.i64.wrap ((k % 8 : Nat) : Int) = ((k % 8 : Nat) : Int) := by rw [IntKind.wrap_i64]; omega
  have r3 : ¬ (8 : Int) = 0 := by decide
  by_cases h : k % 8 ≤ 3
  · have e1 : makeM (C := scr) mach1 (List.replicate (k % 8) zScr) = (⟨mach1, (List.replicate (k % 8) zScr).map (startM (C := scr)), List.replicate (k % 8) false⟩, 0) := by
      unfold makeM
      rw [if_neg (by rw [hv, List.length_replicate]; omega), List.length_replicate]
    rw [e1] at k1
    have k2 := ok_kWDone (C := scr) ⟨mach1, (List.replicate (k % 8) zScr).map (startM (C := scr)), List.replicate (k % 8) false⟩ (by simp; omega)
    rw [done_zs] at k2
    obtain ⟨W, hW⟩ : ∃ W : WorldM scr, W = ⟨mach1, (List.replicate (k % 8) zScr).map (startM (C := scr)), List.replicate (k % 8) false⟩ := ⟨_, rfl⟩
    have w1 : W.tasks.length = k % 8 := by rw [hW]; simp
    have w2 : W.stopped.length = k % 8 := by rw [hW]; simp
    rw [← hW] at k1 k2
    clear hW e1
    have w3 : ((k % 8 : Nat) : Int) ≤ 3 := by omega
    unfold evFn sc_TaskMakes rv_TaskMakes
    have F1 := And.intro @r1 (And.intro @r2 (And.intro @r3 (And.intro @w3 (And.intro @w1 @w2))))
    refine ev_seq_k fun K1 hn1 hr1 he1 => ?_
    refine ev_ops_k fun K2 hk2 => ?_
    refine sh1 F1 ?_
    refine hk2 _ ?_
    refine hn1 (some ([0], none)) _ ?_
    refine ev_seq_k fun K3 hn3 hr3 he3 => ?_
    refine ev_ops_k fun K4 hk4 => ?_
    refine evL_take 2 fun K5 hk5 => ?_
    refine sh1 F1 ?_
    refine sd ?_
    refine hk5 _ ?_
    refine evL_take 1 fun K6 hk6 => ?_
    refine sh1 F1 ?_
    refine Or.inl (Or.inl ⟨_, k0, ?_⟩)
    refine hk6 _ ?_
    refine evL_take 5 fun K7 hk7 => ?_
    refine sh1 F1 ?_
    refine sd ?_
    refine hk7 _ ?_
    refine sh1 F1 ?_
    refine hk4 _ ?_
    refine hn3 (some ([0, 3, 4], none)) _ ?_
    refine ev_seq_k fun K8 hn8 hr8 he8 => ?_
    refine ev_ops_k fun K9 hk9 => ?_
    refine sh1 F1 ?_
    refine hk9 _ ?_
    refine hn8 (some ([0, 3, 4, 5], none)) _ ?_
    refine ev_seq_k fun K10 hn10 hr10 he10 => ?_
    refine ev_seq_k fun K11 hn11 hr11 he11 => ?_
    refine ev_ops_k fun K12 hk12 => ?_
    refine sh1 F1 ?_
    refine hk12 _ ?_
    refine hn11 (some ([0, 3, 4, 5, 6], none)) _ ?_
    refine ev_block_k fun K13 hn13 hx13 hr13 he13 => ?_
    refine ev_loop_k (TmInv k) (k % 8) (some ([0, 3, 4, 5, 6], some ([0, 1], 2))) ([.slot 5 (some 54) 1]) ?_ ?_
    · try refine lp0 ?_
      exact ⟨0, by omega, by omega, by rfl⟩
    · intro k S1 hI
      obtain ⟨i, hi, rfl, rfl⟩ := hI
      have hcase : i = k % 8 ∨ i < k % 8 := by omega
      intro K14 hn14 hr14 he14
      rcases hcase with hcc | hcc
      · skip
        have y2 : ¬ (i : Int) < ((k % 8 : Nat) : Int) := by omega
        subst hcc
        have F2 := And.intro F1 @y2
        refine ev_seq_k fun K15 hn15 hr15 he15 => ?_
        refine ev_seq_k fun K16 hn16 hr16 he16 => ?_
        refine ev_ops_k fun K17 hk17 => ?_
        refine evL_take 3 fun K18 hk18 => ?_
        refine sh1 F2 ?_
        refine sd ?_
        refine hk18 _ ?_
        refine sh1 F2 ?_
        refine sd ?_
        refine hk17 _ ?_
        refine hn16 (some ([0, 3, 4, 5, 6, 19], none)) _ ?_
        refine ev_cond_k rfl (fun hx => absurd hx (by simp at hx)) (fun hc0 => ?_)
        clear hc0
        refine he15 0 _ ?_
        refine he14 0 _ ?_
        refine hx13 _ ?_
        refine hn10 (some ([3, 4, 5], none)) _ ?_
        refine ev_seq_k fun K19 hn19 hr19 he19 => ?_
        refine ev_ops_k fun K20 hk20 => ?_
        refine evL_take 1 fun K21 hk21 => ?_
        refine sh1 F2 ?_
        refine sd ?_
        refine hk21 _ ?_
        refine evL_take 1 fun K22 hk22 => ?_
        refine sh1 F2 ?_
        refine hk22 _ ?_
        refine evL_take 1 fun K23 hk23 => ?_
        refine sh1 F2 ?_
        refine Or.inl (Or.inl ⟨_, k1, ?_⟩)
        refine hk23 _ ?_
        refine evL_take 5 fun K24 hk24 => ?_
        refine sh1 F2 ?_
        refine sd ?_
        refine hk24 _ ?_
        refine sh1 F2 ?_
        refine hk20 _ ?_
        refine hn19 (some ([4, 5, 7, 8], none)) _ ?_
        refine ev_seq_k fun K25 hn25 hr25 he25 => ?_
        refine ev_seq_k fun K26 hn26 hr26 he26 => ?_
        refine ev_ops_k fun K27 hk27 => ?_
        refine evL_take 2 fun K28 hk28 => ?_
        refine sh1 F2 ?_
        refine sd ?_
        refine hk28 _ ?_
        refine evL_take 3 fun K29 hk29 => ?_
        refine sh1 F2 ?_
        refine sd ?_
        refine hk29 _ ?_
        refine evL_take 3 fun K30 hk30 => ?_
        refine sh1 F2 ?_
        refine sd ?_
        refine hk30 _ ?_
        refine evL_take 1 fun K31 hk31 => ?_
        refine sh1 F2 ?_
        refine Or.inl ⟨_, eqsh_bool_refl _, ?_⟩
        refine hk31 _ ?_
        refine evL_take 4 fun K32 hk32 => ?_
        refine sh1 F2 ?_
        refine sd ?_
        refine hk32 _ ?_
        refine evL_take 3 fun K33 hk33 => ?_
        refine sh1 F2 ?_
        refine sd ?_
        refine hk33 _ ?_
        refine evL_take 3 fun K34 hk34 => ?_
        refine sh1 F2 ?_
        refine sd ?_
        refine hk34 _ ?_
        refine evL_take 2 fun K35 hk35 => ?_
        refine sh1 F2 ?_
        refine sd ?_
        refine hk35 _ ?_
        refine sh1 F2 ?_
        refine hk27 _ ?_
        refine hn26 (some ([5, 7, 8, 56], none)) _ ?_
        refine ev_cond_k rfl (fun hx => absurd hx (by simp at hx)) (fun hc1 => ?_)
        clear hc1
        refine hn25 (some ([5, 7, 8], none)) _ ?_
        refine ev_seq_k fun K36 hn36 hr36 he36 => ?_
        refine ev_ops_k fun K37 hk37 => ?_
        refine evL_take 2 fun K38 hk38 => ?_
        refine sh1 F2 ?_
        refine sd ?_
        refine hk38 _ ?_
        refine evL_take 3 fun K39 hk39 => ?_
        refine sh1 F2 ?_
        refine sd ?_
        refine hk39 _ ?_
        refine evL_take 4 fun K40 hk40 => ?_
        refine sh1 F2 ?_
        refine sd ?_
        refine hk40 _ ?_
        refine evL_take 3 fun K41 hk41 => ?_
        refine sh1 F2 ?_
        refine sd ?_
        refine hk41 _ ?_
        refine evL_take 4 fun K42 hk42 => ?_
        refine sh1 F2 ?_
        refine sd ?_
        refine hk42 _ ?_
        refine evL_take 3 fun K43 hk43 => ?_
        refine sh1 F2 ?_
        refine sd ?_
        refine hk43 _ ?_
        refine evL_take 1 fun K44 hk44 => ?_
        refine sh1 F2 ?_
        refine Or.inl (Or.inl ⟨_, k2, ?_⟩)
        refine hk44 _ ?_
        refine evL_take 3 fun K45 hk45 => ?_
        refine sh1 F2 ?_
        refine hk45 _ ?_
        refine evL_take 1 fun K46 hk46 => ?_
        refine sh1 F2 ?_
        refine Or.inl (Or.inl ⟨_, ka, ?_⟩)
        refine hk46 _ ?_
        refine sh1 F2 ?_
        refine hk37 _ ?_
        refine hn36 (some ([2], none)) _ ?_
        exact sf1 F2
      · skip
        have y2 : (i : Int) < ((k % 8 : Nat) : Int) := by omega
        have y3 : IntKind.i64.wrap ((i : Int) + 1) = ((i + 1 : Nat) : Int) := by rw [IntKind.wrap_i64]; omega
        have y4 : (i + 1) * 16 ≤ 140737488355328 := by omega
        have F3 := And.intro F1 (And.intro @y2 (And.intro @y3 @y4))
        refine ev_seq_k fun K47 hn47 hr47 he47 => ?_
        refine ev_seq_k fun K48 hn48 hr48 he48 => ?_
        refine ev_ops_k fun K49 hk49 => ?_
        refine evL_take 3 fun K50 hk50 => ?_
        refine sh1 F3 ?_
        refine sd ?_
        refine hk50 _ ?_
        refine sh1 F3 ?_
        refine sd ?_
        refine hk49 _ ?_
        refine hn48 (some ([0, 3, 4, 5, 6, 19], none)) _ ?_
        refine ev_cond_k rfl (fun hc0 => ?_) (fun hx => absurd hx (by simp at hx))
        clear hc0
        refine hn47 (some ([0, 3, 4, 5, 6], none)) _ ?_
        refine ev_seq_k fun K51 hn51 hr51 he51 => ?_
        refine ev_block_k fun K52 hn52 hx52 hr52 he52 => ?_
        refine ev_ops_k fun K53 hk53 => ?_
        refine evL_take 4 fun K54 hk54 => ?_
        refine sh1 F3 ?_
        refine sd ?_
        refine hk54 _ ?_
        refine evL_take 1 fun K55 hk55 => ?_
        refine sh1 F3 ?_
        refine sd ?_
        refine hk55 _ ?_
        refine sh1 F3 ?_
        refine hk53 _ ?_
        refine hn52 _ ?_
        refine hn51 (some ([0, 3, 4, 5, 6], none)) _ ?_
        refine ev_ops_k fun K56 hk56 => ?_
        refine evL_take 2 fun K57 hk57 => ?_
        refine sh1 F3 ?_
        refine sd ?_
        refine hk57 _ ?_
        refine sh1 F3 ?_
        refine hk56 _ ?_
        refine hn14 (k % 8 - (i + 1)) (some ([0, 3, 4, 5, 6], some ([0, 2], 2))) _ ?_ ?_
        all_goals try refine lp0 ?_
        · omega
        · exact ⟨i + 1, by omega, by omega, by rw [List.replicate_succ']⟩
  · have e1 : makeM (C := scr) mach1 (List.replicate (k % 8) zScr) = (zWorld scr, 15) := by
      unfold makeM
      rw [if_pos (by rw [hv, List.length_replicate]; omega)]
    rw [e1] at k1
    change Ok _ _ (.tup [.agg zCells, sI 15]) at k1
    have w3 : ¬ ((k % 8 : Nat) : Int) ≤ 3 := by omega
    unfold evFn sc_TaskMakes rv_TaskMakes
    have F1 := And.intro @r1 (And.intro @r2 (And.intro @r3 @w3))
    refine ev_seq_k fun K1 hn1 hr1 he1 => ?_
    refine ev_ops_k fun K2 hk2 => ?_
    refine sh1 F1 ?_
    refine hk2 _ ?_
    refine hn1 (some ([0], none)) _ ?_
    refine ev_seq_k fun K3 hn3 hr3 he3 => ?_
    refine ev_ops_k fun K4 hk4 => ?_
    refine evL_take 2 fun K5 hk5 => ?_
    refine sh1 F1 ?_
    refine sd ?_
    refine hk5 _ ?_
    refine evL_take 1 fun K6 hk6 => ?_
    refine sh1 F1 ?_
    refine Or.inl (Or.inl ⟨_, k0, ?_⟩)
    refine hk6 _ ?_
    refine evL_take 5 fun K7 hk7 => ?_
    refine sh1 F1 ?_
    refine sd ?_
    refine hk7 _ ?_
    refine sh1 F1 ?_
    refine hk4 _ ?_
    refine hn3 (some ([0, 3, 4], none)) _ ?_
    refine ev_seq_k fun K8 hn8 hr8 he8 => ?_
    refine ev_ops_k fun K9 hk9 => ?_
    refine sh1 F1 ?_
    refine hk9 _ ?_
    refine hn8 (some ([0, 3, 4, 5], none)) _ ?_
    refine ev_seq_k fun K10 hn10 hr10 he10 => ?_
    refine ev_seq_k fun K11 hn11 hr11 he11 => ?_
    refine ev_ops_k fun K12 hk12 => ?_
    refine sh1 F1 ?_
    refine hk12 _ ?_
    refine hn11 (some ([0, 3, 4, 5, 6], none)) _ ?_
    refine ev_block_k fun K13 hn13 hx13 hr13 he13 => ?_
    refine ev_loop_k (TmInv k) (k % 8) (some ([0, 3, 4, 5, 6], some ([0, 1], 2))) ([.slot 5 (some 54) 1]) ?_ ?_
    · try refine lp0 ?_
      exact ⟨0, by omega, by omega, by rfl⟩
    · intro k S1 hI
      obtain ⟨i, hi, rfl, rfl⟩ := hI
      have hcase : i = k % 8 ∨ i < k % 8 := by omega
      intro K14 hn14 hr14 he14
      rcases hcase with hcc | hcc
      · skip
        have y2 : ¬ (i : Int) < ((k % 8 : Nat) : Int) := by omega
        subst hcc
        have F2 := And.intro F1 @y2
        refine ev_seq_k fun K15 hn15 hr15 he15 => ?_
        refine ev_seq_k fun K16 hn16 hr16 he16 => ?_
        refine ev_ops_k fun K17 hk17 => ?_
        refine evL_take 3 fun K18 hk18 => ?_
        refine sh1 F2 ?_
        refine sd ?_
        refine hk18 _ ?_
        refine sh1 F2 ?_
        refine sd ?_
        refine hk17 _ ?_
        refine hn16 (some ([0, 3, 4, 5, 6, 19], none)) _ ?_
        refine ev_cond_k rfl (fun hx => absurd hx (by simp at hx)) (fun hc0 => ?_)
        clear hc0
        refine he15 0 _ ?_
        refine he14 0 _ ?_
        refine hx13 _ ?_
        refine hn10 (some ([3, 4, 5], none)) _ ?_
        refine ev_seq_k fun K19 hn19 hr19 he19 => ?_
        refine ev_ops_k fun K20 hk20 => ?_
        refine evL_take 1 fun K21 hk21 => ?_
        refine sh1 F2 ?_
        refine sd ?_
        refine hk21 _ ?_
        refine evL_take 1 fun K22 hk22 => ?_
        refine sh1 F2 ?_
        refine hk22 _ ?_
        refine evL_take 1 fun K23 hk23 => ?_
        refine sh1 F2 ?_
        refine Or.inl (Or.inl ⟨_, k1, ?_⟩)
        refine hk23 _ ?_
        refine evL_take 5 fun K24 hk24 => ?_
        refine sh1 F2 ?_
        refine sd ?_
        refine hk24 _ ?_
        refine sh1 F2 ?_
        refine hk20 _ ?_
        refine hn19 (some ([4, 5, 7, 8], none)) _ ?_
        refine ev_seq_k fun K25 hn25 hr25 he25 => ?_
        refine ev_seq_k fun K26 hn26 hr26 he26 => ?_
        refine ev_ops_k fun K27 hk27 => ?_
        refine evL_take 2 fun K28 hk28 => ?_
        refine sh1 F2 ?_
        refine sd ?_
        refine hk28 _ ?_
        refine evL_take 3 fun K29 hk29 => ?_
        refine sh1 F2 ?_
        refine sd ?_
        refine hk29 _ ?_
        refine evL_take 3 fun K30 hk30 => ?_
        refine sh1 F2 ?_
        refine sd ?_
        refine hk30 _ ?_
        refine evL_take 1 fun K31 hk31 => ?_
        refine sh1 F2 ?_
        refine Or.inl ⟨_, eqsh_bool_refl _, ?_⟩
        refine hk31 _ ?_
        refine evL_take 4 fun K32 hk32 => ?_
        refine sh1 F2 ?_
        refine sd ?_
        refine hk32 _ ?_
        refine evL_take 3 fun K33 hk33 => ?_
        refine sh1 F2 ?_
        refine sd ?_
        refine hk33 _ ?_
        refine evL_take 3 fun K34 hk34 => ?_
        refine sh1 F2 ?_
        refine sd ?_
        refine hk34 _ ?_
        refine evL_take 2 fun K35 hk35 => ?_
        refine sh1 F2 ?_
        refine sd ?_
        refine hk35 _ ?_
        refine sh1 F2 ?_
        refine hk27 _ ?_
        refine hn26 (some ([5, 7, 8, 56], none)) _ ?_
        refine ev_cond_k rfl (fun hx => absurd hx (by simp at hx)) (fun hc1 => ?_)
        clear hc1
        refine hn25 (some ([5, 7, 8], none)) _ ?_
        refine ev_seq_k fun K36 hn36 hr36 he36 => ?_
        refine ev_ops_k fun K37 hk37 => ?_
        refine evL_take 2 fun K38 hk38 => ?_
        refine sh1 F2 ?_
        refine sd ?_
        refine hk38 _ ?_
        refine evL_take 3 fun K39 hk39 => ?_
        refine sh1 F2 ?_
        refine sd ?_
        refine hk39 _ ?_
        refine evL_take 4 fun K40 hk40 => ?_
        refine sh1 F2 ?_
        refine sd ?_
        refine hk40 _ ?_
        refine evL_take 3 fun K41 hk41 => ?_
        refine sh1 F2 ?_
        refine sd ?_
        refine hk41 _ ?_
        refine evL_take 4 fun K42 hk42 => ?_
        refine sh1 F2 ?_
        refine sd ?_
        refine hk42 _ ?_
        refine evL_take 3 fun K43 hk43 => ?_
        refine sh1 F2 ?_
        refine sd ?_
        refine hk43 _ ?_
        refine evL_take 1 fun K44 hk44 => ?_
        refine sh1 F2 ?_
        skip
        refine hk44 _ ?_
        refine evL_take 3 fun K45 hk45 => ?_
        refine sh1 F2 ?_
        refine hk45 _ ?_
        refine evL_take 1 fun K46 hk46 => ?_
        refine sh1 F2 ?_
        refine Or.inl (Or.inl ⟨_, ka, ?_⟩)
        refine hk46 _ ?_
        refine sh1 F2 ?_
        refine hk37 _ ?_
        refine hn36 (some ([2], none)) _ ?_
        exact sf1 F2
      · skip
        have y2 : (i : Int) < ((k % 8 : Nat) : Int) := by omega
        have y3 : IntKind.i64.wrap ((i : Int) + 1) = ((i + 1 : Nat) : Int) := by rw [IntKind.wrap_i64]; omega
        have y4 : (i + 1) * 16 ≤ 140737488355328 := by omega
        have F3 := And.intro F1 (And.intro @y2 (And.intro @y3 @y4))
        refine ev_seq_k fun K47 hn47 hr47 he47 => ?_
        refine ev_seq_k fun K48 hn48 hr48 he48 => ?_
        refine ev_ops_k fun K49 hk49 => ?_
        refine evL_take 3 fun K50 hk50 => ?_
        refine sh1 F3 ?_
        refine sd ?_
        refine hk50 _ ?_
        refine sh1 F3 ?_
        refine sd ?_
        refine hk49 _ ?_
        refine hn48 (some ([0, 3, 4, 5, 6, 19], none)) _ ?_
        refine ev_cond_k rfl (fun hc0 => ?_) (fun hx => absurd hx (by simp at hx))
        clear hc0
        refine hn47 (some ([0, 3, 4, 5, 6], none)) _ ?_
        refine ev_seq_k fun K51 hn51 hr51 he51 => ?_
        refine ev_block_k fun K52 hn52 hx52 hr52 he52 => ?_
        refine ev_ops_k fun K53 hk53 => ?_
        refine evL_take 4 fun K54 hk54 => ?_
        refine sh1 F3 ?_
        refine sd ?_
        refine hk54 _ ?_
        refine evL_take 1 fun K55 hk55 => ?_
        refine sh1 F3 ?_
        refine sd ?_
        refine hk55 _ ?_
        refine sh1 F3 ?_
        refine hk53 _ ?_
        refine hn52 _ ?_
        refine hn51 (some ([0, 3, 4, 5, 6], none)) _ ?_
        refine ev_ops_k fun K56 hk56 => ?_
        refine evL_take 2 fun K57 hk57 => ?_
        refine sh1 F3 ?_
        refine sd ?_
        refine hk57 _ ?_
        refine sh1 F3 ?_
        refine hk56 _ ?_
        refine hn14 (k % 8 - (i + 1)) (some ([0, 3, 4, 5, 6], some ([0, 2], 2))) _ ?_ ?_
        all_goals try refine lp0 ?_
        · omega
        · exact ⟨i + 1, by omega, by omega, by rw [List.replicate_succ']⟩
end Go.Proofs.Ytcbdgnjdpfgobaa
