/-
  Layer 6 by shadows: the helpers of the laws.
-/
import Derived.Test.YtfcjkchpldfamaaK6b
import Derived.Test.YtfcjkchpldfamaaMC
namespace Go.Proofs.Ytfcjkchpldfamaa
set_option linter.unusedSimpArgs false
set_option linter.unusedVariables false
open Go.RowKit Go.Maps

structure DeedV where
  crash : Bool
  thread : Int
  act : ActM
  choice : Int
abbrev eDeed (d : DeedV) : List Sh := [sB d.crash, sI d.thread, sI d.act.op, sI d.act.place, sI d.act.old.val, sU d.act.old.ver, sU d.act.old.ref, sI d.act.new.val, sU d.act.new.ver, sU d.act.new.ref, sI d.choice]
def smallD (d : DeedV) : Bool := decide (-1048576 ≤ d.choice ∧ d.choice ≤ 1048576)
def fewD (ws : List WordV) (ds : List DeedV) : Bool := ds.all smallD && decide (ws.length ≤ 20 ∧ ds.length ≤ 80)
def FewInv (g : Nat) (ws : List WordV) (g2 : Nat) (ds : List DeedV) (m : Nat) (S : St) : Prop :=
  ∃ i : Nat, i ≤ ds.length ∧ m = ds.length - i ∧ (ds.take i).all smallD = true ∧ S = ⟨[(0, .sl 3 g (ws.map eWord)), (1, .sl 11 g2 (ds.map eDeed)), (7, .sl 11 g2 (ds.map eDeed)), (8, sI ds.length), (9, sI i)], [], 0⟩
set_option maxHeartbeats 2000000 in
theorem ok_l6Few (g : Nat) (ws : List WordV) (g2 : Nat) (ds : List DeedV) (hd : ds.length ≤ 9223372036854775807) : Ok 49 [.sl 3 g (ws.map eWord), .sl 11 g2 (ds.map eDeed)] (sB (fewD ws ds)) := by
  refine ok_of_tr Try.func49 tr_l6Few rfl ?_
  unfold fewD
  unfold evFn sc_l6Few rv_l6Few
  refine ev_seq_k fun K1 hn1 hr1 he1 => ?_
  refine ev_ops_k fun K2 hk2 => ?_
  refine sh0 ?_
  refine hk2 _ ?_
  refine hn1 (some ([0, 1], none)) _ ?_
  refine ev_seq_k fun K3 hn3 hr3 he3 => ?_
  refine ev_seq_k fun K4 hn4 hr4 he4 => ?_
  refine ev_ops_k fun K5 hk5 => ?_
  refine sh0 ?_
  refine hk5 _ ?_
  refine hn4 (some ([0, 1, 7, 8, 9], none)) _ ?_
  refine ev_block_k fun K6 hn6 hx6 hr6 he6 => ?_
  refine ev_loop_k (FewInv g ws g2 ds) (ds.length) (some ([0, 1, 7, 8, 9], some ([], 0))) ([]) ?_ ?_
  · try refine lp0 ?_
    exact ⟨0, by omega, by omega, rfl, rfl⟩
  · intro k S1 hI
    obtain ⟨i, hi, rfl, hall, rfl⟩ := hI
    have hcase : (i = ds.length ∧ ws.length ≤ 20) ∨ (i = ds.length ∧ ¬ ws.length ≤ 20) ∨ (∃ x, ds[i]? = some x ∧ smallD x = true) ∨ (∃ x, ds[i]? = some x ∧ x.choice < -1048576) ∨ ∃ x, ds[i]? = some x ∧ ¬ x.choice < -1048576 ∧ 1048576 < x.choice := by
      rcases Nat.lt_or_ge i ds.length with h | h
      · have hx := List.getElem?_eq_getElem h
        by_cases h1 : (ds[i]).choice < -1048576
        · exact .inr (.inr (.inr (.inl ⟨_, hx, h1⟩)))
        · by_cases h2 : 1048576 < (ds[i]).choice
          · exact .inr (.inr (.inr (.inr ⟨_, hx, h1, h2⟩)))
          · exact .inr (.inr (.inl ⟨_, hx, decide_eq_true ⟨by omega, by omega⟩⟩))
      · by_cases h1 : ws.length ≤ 20
        · exact .inl ⟨by omega, h1⟩
        · exact .inr (.inl ⟨by omega, h1⟩)
    intro K7 hn7 hr7 he7
    rcases hcase with ⟨hcc, hw⟩ | ⟨hcc, hw⟩ | ⟨x, hx0, hs⟩ | ⟨x, hx0, hs⟩ | ⟨x, hx0, hs, hs2⟩
    · skip
      subst hcc
      have w2 : ¬ (ds.length : Int) < (ds.length : Int) := by omega
      rw [List.take_of_length_le (Nat.le_refl _)] at hall
      have w3 : (ws.length : Int) ≤ 20 := by omega
      have w4 : (ds.all smallD && decide (ws.length ≤ 20 ∧ ds.length ≤ 80)) = decide ((ds.length : Int) ≤ 80) := by
        rw [hall, Bool.true_and]
        exact decide_eq_decide.2 ⟨fun h => by omega, fun h => ⟨hw, by omega⟩⟩
      have F1 := And.intro @w2 (And.intro @w3 @w4)
      refine ev_seq_k fun K8 hn8 hr8 he8 => ?_
      refine ev_ops_k fun K9 hk9 => ?_
      refine sh1 F1 ?_
      refine sd ?_
      refine hk9 _ ?_
      refine hn8 (some ([0, 1, 7, 8, 9, 10], none)) _ ?_
      refine ev_seq_k fun K10 hn10 hr10 he10 => ?_
      refine ev_cond_k rfl (fun hx => absurd hx (by simp at hx)) (fun hc0 => ?_)
      clear hc0
      refine he10 0 _ ?_
      refine he7 0 _ ?_
      refine hx6 _ ?_
      refine hn3 (some ([0, 1], none)) _ ?_
      refine ev_seq_k fun K11 hn11 hr11 he11 => ?_
      refine ev_ops_k fun K12 hk12 => ?_
      refine evL_take 3 fun K13 hk13 => ?_
      refine sh1 F1 ?_
      refine sd ?_
      refine hk13 _ ?_
      refine evL_take 4 fun K14 hk14 => ?_
      refine sh1 F1 ?_
      refine sd ?_
      refine hk14 _ ?_
      refine sh1 F1 ?_
      refine hk12 _ ?_
      refine hn11 (some ([4], none)) _ ?_
      exact sf1 F1
    · skip
      subst hcc
      have w2 : ¬ (ds.length : Int) < (ds.length : Int) := by omega
      have w3 : ¬ (ws.length : Int) ≤ 20 := by omega
      have w4 : (ds.all smallD && decide (ws.length ≤ 20 ∧ ds.length ≤ 80)) = false := by
        rw [show decide (ws.length ≤ 20 ∧ ds.length ≤ 80) = false from decide_eq_false (fun h => hw h.1), Bool.and_false]
      have F2 := And.intro @w2 (And.intro @w3 @w4)
      refine ev_seq_k fun K15 hn15 hr15 he15 => ?_
      refine ev_ops_k fun K16 hk16 => ?_
      refine sh1 F2 ?_
      refine sd ?_
      refine hk16 _ ?_
      refine hn15 (some ([0, 1, 7, 8, 9, 10], none)) _ ?_
      refine ev_seq_k fun K17 hn17 hr17 he17 => ?_
      refine ev_cond_k rfl (fun hx => absurd hx (by simp at hx)) (fun hc0 => ?_)
      clear hc0
      refine he17 0 _ ?_
      refine he7 0 _ ?_
      refine hx6 _ ?_
      refine hn3 (some ([0, 1], none)) _ ?_
      refine ev_seq_k fun K18 hn18 hr18 he18 => ?_
      refine ev_ops_k fun K19 hk19 => ?_
      refine evL_take 3 fun K20 hk20 => ?_
      refine sh1 F2 ?_
      refine sd ?_
      refine hk20 _ ?_
      refine evL_take 4 fun K21 hk21 => ?_
      refine sh1 F2 ?_
      refine sd ?_
      refine hk21 _ ?_
      refine sh1 F2 ?_
      refine hk19 _ ?_
      refine hn18 (some ([4], none)) _ ?_
      exact sf1 F2
    · skip
      skip
      have hlt := (List.getElem?_eq_some_iff.1 hx0).1
      have w2 : (i : Int) < (ds.length : Int) := by omega
      have w3 : IntKind.i64.wrap ((i : Int) + 1) = ((i + 1 : Nat) : Int) := by rw [IntKind.wrap_i64]; omega
      have hs' := of_decide_eq_true hs
      have w4 : ¬ x.choice < -1048576 := by omega
      have w5 : ¬ 1048576 < x.choice := by omega
      have F3 := And.intro @w2 (And.intro @w3 (And.intro @w4 (And.intro @w5 @hx0)))
      refine ev_seq_k fun K22 hn22 hr22 he22 => ?_
      refine ev_ops_k fun K23 hk23 => ?_
      refine sh1 F3 ?_
      refine sd ?_
      refine hk23 _ ?_
      refine hn22 (some ([0, 1, 7, 8, 9, 10], none)) _ ?_
      refine ev_seq_k fun K24 hn24 hr24 he24 => ?_
      refine ev_cond_k rfl (fun hc0 => ?_) (fun hx => absurd hx (by simp at hx))
      clear hc0
      refine hn24 (some ([0, 1, 7, 8, 9], none)) _ ?_
      refine ev_seq_k fun K25 hn25 hr25 he25 => ?_
      refine ev_block_k fun K26 hn26 hx26 hr26 he26 => ?_
      refine ev_seq_k fun K27 hn27 hr27 he27 => ?_
      refine ev_ops_k fun K28 hk28 => ?_
      refine evL_take 1 fun K29 hk29 => ?_
      refine sh1 F3 ?_
      refine sd ?_
      refine hk29 _ ?_
      refine evL_take 1 fun K30 hk30 => ?_
      refine sh1 F3 ?_
      refine sd ?_
      refine hk30 _ ?_
      refine sh1 F3 ?_
      refine sd ?_
      refine hk28 _ ?_
      refine hn27 (some ([0, 1, 6, 7, 8, 9], none)) _ ?_
      refine ev_seq_k fun K31 hn31 hr31 he31 => ?_
      refine ev_ops_k fun K32 hk32 => ?_
      refine evL_take 2 fun K33 hk33 => ?_
      refine sh1 F3 ?_
      refine sd ?_
      refine hk33 _ ?_
      refine evL_take 1 fun K34 hk34 => ?_
      refine sh1 F3 ?_
      refine sd ?_
      refine hk34 _ ?_
      refine evL_take 3 fun K35 hk35 => ?_
      refine sh1 F3 ?_
      refine sd ?_
      refine hk35 _ ?_
      refine evL_take 1 fun K36 hk36 => ?_
      refine sh1 F3 ?_
      refine sd ?_
      refine hk36 _ ?_
      refine sh1 F3 ?_
      refine hk32 _ ?_
      refine hn31 (some ([0, 1, 7, 8, 9, 20], none)) _ ?_
      refine ev_cond_k rfl (fun hx => absurd hx (by simp at hx)) (fun hc1 => ?_)
      clear hc1
      refine hn26 _ ?_
      refine hn25 (some ([0, 1, 7, 8, 9], none)) _ ?_
      refine ev_ops_k fun K37 hk37 => ?_
      refine evL_take 1 fun K38 hk38 => ?_
      refine sh1 F3 ?_
      refine sd ?_
      refine hk38 _ ?_
      refine sh1 F3 ?_
      refine hk37 _ ?_
      refine hn7 (ds.length - (i + 1)) (some ([0, 1, 7, 8, 9], some ([], 0))) _ ?_ ?_
      all_goals try refine lp0 ?_
      · omega
      · refine ⟨i + 1, by omega, by omega, ?_, rfl⟩
        rw [List.take_add_one, hx0]
        simp [hall, hs]
    · skip
      skip
      have hlt := (List.getElem?_eq_some_iff.1 hx0).1
      have w2 : (i : Int) < (ds.length : Int) := by omega
      have w4 : (ds.all smallD && decide (ws.length ≤ 20 ∧ ds.length ≤ 80)) = false := by
        rw [show ds.all smallD = false from List.all_eq_false.2 ⟨x, List.mem_of_getElem? hx0, by unfold smallD; simp; omega⟩, Bool.false_and]
      have F4 := And.intro @w2 (And.intro @hs (And.intro @hx0 @w4))
      refine ev_seq_k fun K39 hn39 hr39 he39 => ?_
      refine ev_ops_k fun K40 hk40 => ?_
      refine sh1 F4 ?_
      refine sd ?_
      refine hk40 _ ?_
      refine hn39 (some ([0, 1, 7, 8, 9, 10], none)) _ ?_
      refine ev_seq_k fun K41 hn41 hr41 he41 => ?_
      refine ev_cond_k rfl (fun hc0 => ?_) (fun hx => absurd hx (by simp at hx))
      clear hc0
      refine hn41 (some ([0, 1, 7, 8, 9], none)) _ ?_
      refine ev_seq_k fun K42 hn42 hr42 he42 => ?_
      refine ev_block_k fun K43 hn43 hx43 hr43 he43 => ?_
      refine ev_seq_k fun K44 hn44 hr44 he44 => ?_
      refine ev_ops_k fun K45 hk45 => ?_
      refine evL_take 1 fun K46 hk46 => ?_
      refine sh1 F4 ?_
      refine sd ?_
      refine hk46 _ ?_
      refine evL_take 1 fun K47 hk47 => ?_
      refine sh1 F4 ?_
      refine sd ?_
      refine hk47 _ ?_
      refine sh1 F4 ?_
      refine sd ?_
      refine hk45 _ ?_
      refine hn44 (some ([0, 1, 6, 7, 8, 9], none)) _ ?_
      refine ev_seq_k fun K48 hn48 hr48 he48 => ?_
      refine ev_ops_k fun K49 hk49 => ?_
      refine evL_take 2 fun K50 hk50 => ?_
      refine sh1 F4 ?_
      refine sd ?_
      refine hk50 _ ?_
      refine evL_take 1 fun K51 hk51 => ?_
      refine sh1 F4 ?_
      refine sd ?_
      refine hk51 _ ?_
      refine evL_take 3 fun K52 hk52 => ?_
      refine sh1 F4 ?_
      refine sd ?_
      refine hk52 _ ?_
      refine evL_take 1 fun K53 hk53 => ?_
      refine sh1 F4 ?_
      refine sd ?_
      refine hk53 _ ?_
      refine sh1 F4 ?_
      refine hk49 _ ?_
      refine hn48 (some ([0, 1, 7, 8, 9, 20], none)) _ ?_
      refine ev_cond_k rfl (fun hc1 => ?_) (fun hx => absurd hx (by simp at hx))
      clear hc1
      refine ev_seq_k fun K54 hn54 hr54 he54 => ?_
      refine ev_ops_k fun K55 hk55 => ?_
      refine sh1 F4 ?_
      refine hk55 _ ?_
      refine hn54 (some ([4], none)) _ ?_
      refine hr43 _ ?_
      refine hr42 _ ?_
      refine hr7 _ ?_
      refine hr6 _ ?_
      refine hr3 _ ?_
      exact sf1 F4
    · skip
      skip
      have hlt := (List.getElem?_eq_some_iff.1 hx0).1
      have w2 : (i : Int) < (ds.length : Int) := by omega
      have w4 : (ds.all smallD && decide (ws.length ≤ 20 ∧ ds.length ≤ 80)) = false := by
        rw [show ds.all smallD = false from List.all_eq_false.2 ⟨x, List.mem_of_getElem? hx0, by unfold smallD; simp; omega⟩, Bool.false_and]
      have F5 := And.intro @w2 (And.intro @hs (And.intro @hs2 (And.intro @hx0 @w4)))
      refine ev_seq_k fun K56 hn56 hr56 he56 => ?_
      refine ev_ops_k fun K57 hk57 => ?_
      refine sh1 F5 ?_
      refine sd ?_
      refine hk57 _ ?_
      refine hn56 (some ([0, 1, 7, 8, 9, 10], none)) _ ?_
      refine ev_seq_k fun K58 hn58 hr58 he58 => ?_
      refine ev_cond_k rfl (fun hc0 => ?_) (fun hx => absurd hx (by simp at hx))
      clear hc0
      refine hn58 (some ([0, 1, 7, 8, 9], none)) _ ?_
      refine ev_seq_k fun K59 hn59 hr59 he59 => ?_
      refine ev_block_k fun K60 hn60 hx60 hr60 he60 => ?_
      refine ev_seq_k fun K61 hn61 hr61 he61 => ?_
      refine ev_ops_k fun K62 hk62 => ?_
      refine evL_take 1 fun K63 hk63 => ?_
      refine sh1 F5 ?_
      refine sd ?_
      refine hk63 _ ?_
      refine evL_take 1 fun K64 hk64 => ?_
      refine sh1 F5 ?_
      refine sd ?_
      refine hk64 _ ?_
      refine sh1 F5 ?_
      refine sd ?_
      refine hk62 _ ?_
      refine hn61 (some ([0, 1, 6, 7, 8, 9], none)) _ ?_
      refine ev_seq_k fun K65 hn65 hr65 he65 => ?_
      refine ev_ops_k fun K66 hk66 => ?_
      refine evL_take 2 fun K67 hk67 => ?_
      refine sh1 F5 ?_
      refine sd ?_
      refine hk67 _ ?_
      refine evL_take 1 fun K68 hk68 => ?_
      refine sh1 F5 ?_
      refine sd ?_
      refine hk68 _ ?_
      refine evL_take 3 fun K69 hk69 => ?_
      refine sh1 F5 ?_
      refine sd ?_
      refine hk69 _ ?_
      refine evL_take 1 fun K70 hk70 => ?_
      refine sh1 F5 ?_
      refine sd ?_
      refine hk70 _ ?_
      refine sh1 F5 ?_
      refine hk66 _ ?_
      refine hn65 (some ([0, 1, 7, 8, 9, 20], none)) _ ?_
      refine ev_cond_k rfl (fun hc1 => ?_) (fun hx => absurd hx (by simp at hx))
      clear hc1
      refine ev_seq_k fun K71 hn71 hr71 he71 => ?_
      refine ev_ops_k fun K72 hk72 => ?_
      refine sh1 F5 ?_
      refine hk72 _ ?_
      refine hn71 (some ([4], none)) _ ?_
      refine hr60 _ ?_
      refine hr59 _ ?_
      refine hr7 _ ?_
      refine hr6 _ ?_
      refine hr3 _ ?_
      exact sf1 F5
def AlInv (g : Nat) (g2 : Nat) (a : List WordV) (m : Nat) (S : St) : Prop :=
  ∃ i : Nat, i ≤ a.length ∧ m = a.length - i ∧ S = ⟨[(0, .sl 3 g (a.map eWord)), (1, .sl 3 g2 (a.map eWord)), (12, sI a.length), (13, sI i)], [], 0⟩
theorem ok_l6alike (g g2 : Nat) (a : List WordV) (ha : a.length ≤ 9223372036854775807) : Ok 47 [.sl 3 g (a.map eWord), .sl 3 g2 (a.map eWord)] (sB true) := by
  refine ok_of_tr Try.func47 tr_l6alike rfl ?_
  unfold evFn sc_l6alike rv_l6alike
  refine ev_seq_k fun K1 hn1 hr1 he1 => ?_
  refine ev_ops_k fun K2 hk2 => ?_
  refine sh0 ?_
  refine hk2 _ ?_
  refine hn1 (some ([0, 1], none)) _ ?_
  refine ev_seq_k fun K3 hn3 hr3 he3 => ?_
  refine ev_seq_k fun K4 hn4 hr4 he4 => ?_
  refine ev_ops_k fun K5 hk5 => ?_
  refine sh0 ?_
  refine sd ?_
  refine hk5 _ ?_
  refine hn4 (some ([0, 1, 10], none)) _ ?_
  refine ev_cond_k rfl (fun hx => absurd hx (by simp at hx)) (fun hc0 => ?_)
  clear hc0
  refine hn3 (some ([0, 1], none)) _ ?_
  refine ev_seq_k fun K6 hn6 hr6 he6 => ?_
  refine ev_seq_k fun K7 hn7 hr7 he7 => ?_
  refine ev_ops_k fun K8 hk8 => ?_
  refine sh0 ?_
  refine hk8 _ ?_
  refine hn7 (some ([0, 1, 12, 13], none)) _ ?_
  refine ev_block_k fun K9 hn9 hx9 hr9 he9 => ?_
  refine ev_loop_k (AlInv g g2 a) (a.length) (some ([0, 1, 12, 13], some ([], 0))) ([]) ?_ ?_
  · try refine lp0 ?_
    exact ⟨0, by omega, by omega, rfl⟩
  · intro k S1 hI
    obtain ⟨i, hi, rfl, rfl⟩ := hI
    have hcase : i = a.length ∨ i < a.length := by omega
    intro K10 hn10 hr10 he10
    rcases hcase with hcc | hcc
    · skip
      have w2 : ¬ (i : Int) < (a.length : Int) := by omega
      have F1 := @w2
      refine ev_seq_k fun K11 hn11 hr11 he11 => ?_
      refine ev_ops_k fun K12 hk12 => ?_
      refine sh1 F1 ?_
      refine sd ?_
      refine hk12 _ ?_
      refine hn11 (some ([0, 1, 12, 13, 14], none)) _ ?_
      refine ev_seq_k fun K13 hn13 hr13 he13 => ?_
      refine ev_cond_k rfl (fun hx => absurd hx (by simp at hx)) (fun hc1 => ?_)
      clear hc1
      refine he13 0 _ ?_
      refine he10 0 _ ?_
      refine hx9 _ ?_
      refine hn6 (some ([], none)) _ ?_
      refine ev_seq_k fun K14 hn14 hr14 he14 => ?_
      refine ev_ops_k fun K15 hk15 => ?_
      refine sh1 F1 ?_
      refine hk15 _ ?_
      refine hn14 (some ([4], none)) _ ?_
      exact sf1 F1
    · skip
      skip
      have w2 : (i : Int) < (a.length : Int) := by omega
      have w3 : IntKind.i64.wrap ((i : Int) + 1) = ((i + 1 : Nat) : Int) := by rw [IntKind.wrap_i64]; omega
      have w4 := List.getElem?_eq_getElem hcc
      generalize a[i] = x at w4
      have F2 := And.intro @w2 (And.intro @w3 @w4)
      refine ev_seq_k fun K16 hn16 hr16 he16 => ?_
      refine ev_ops_k fun K17 hk17 => ?_
      refine sh1 F2 ?_
      refine sd ?_
      refine hk17 _ ?_
      refine hn16 (some ([0, 1, 12, 13, 14], none)) _ ?_
      refine ev_seq_k fun K18 hn18 hr18 he18 => ?_
      refine ev_cond_k rfl (fun hc1 => ?_) (fun hx => absurd hx (by simp at hx))
      clear hc1
      refine hn18 (some ([0, 1, 12, 13], none)) _ ?_
      refine ev_seq_k fun K19 hn19 hr19 he19 => ?_
      refine ev_block_k fun K20 hn20 hx20 hr20 he20 => ?_
      refine ev_seq_k fun K21 hn21 hr21 he21 => ?_
      refine ev_ops_k fun K22 hk22 => ?_
      refine sh1 F2 ?_
      refine hk22 _ ?_
      refine hn21 (some ([0, 1, 5, 12, 13], none)) _ ?_
      refine ev_seq_k fun K23 hn23 hr23 he23 => ?_
      refine ev_drw_k [] (n := 8) fun K24 hk24 => ?_
      refine sq0 ?_
      refine evF_take 3 fun K26 hk26 => ?_
      refine sh1 F2 ?_
      refine sd ?_
      refine hk26 _ _ _ ?_
      refine evF_take 1 fun K27 hk27 => ?_
      refine sh1 F2 ?_
      refine sd ?_
      refine hk27 _ _ _ ?_
      refine evF_take 3 fun K28 hk28 => ?_
      refine sh1 F2 ?_
      refine sd ?_
      refine hk28 _ _ _ ?_
      refine sh1 F2 ?_
      refine sd ?_
      refine hk24 _ ?_
      refine sr0 ?_
      refine sh1 F2 ?_
      refine Or.inl ⟨_, eqsh_word_refl _, ?_⟩
      refine hn23 (some ([0, 1, 12, 13, 24], none)) _ ?_
      refine ev_cond_k rfl (fun hx => absurd hx (by simp at hx)) (fun hc2 => ?_)
      clear hc2
      refine hn20 _ ?_
      refine hn19 (some ([0, 1, 12, 13], none)) _ ?_
      refine ev_ops_k fun K29 hk29 => ?_
      refine evL_take 1 fun K30 hk30 => ?_
      refine sh1 F2 ?_
      refine sd ?_
      refine hk30 _ ?_
      refine sh1 F2 ?_
      refine hk29 _ ?_
      refine hn10 (a.length - (i + 1)) (some ([0, 1, 12, 13], some ([], 0))) _ ?_ ?_
      all_goals try refine lp0 ?_
      · omega
      · exact ⟨i + 1, by omega, by omega, rfl⟩

/-! ### A machine behind some deeds -/
noncomputable def deedM (M : MachM) (d : DeedV) : MachM := if d.crash = true then crashM M d.choice else (doM M d.thread d.act d.choice).1
noncomputable def runD (M : MachM) (ds : List DeedV) : Nat → MachM
  | 0 => M
  | i + 1 => match ds[i]? with
    | some d => deedM (runD M ds i) d
    | none => runD M ds i
theorem runD_succ {M : MachM} {ds : List DeedV} {i : Nat} {d : DeedV} (h : ds[i]? = some d) : runD M ds (i + 1) = deedM (runD M ds i) d := by rw [runD, h]
theorem machOk_deed {M : MachM} {n : Nat} (h : MachOk M n) (d : DeedV) : MachOk (deedM M d) (n + 1) := by
  unfold deedM; split
  · exact machOk_crash h _
  · exact machOk_do h _ _ _
theorem machOk_run {M : MachM} {n : Nat} (h : MachOk M n) (ds : List DeedV) : ∀ i, MachOk (runD M ds i) (n + i)
  | 0 => h
  | i + 1 => by
    unfold runD
    cases e : ds[i]? with
    | none => exact machOk_up (machOk_run h ds i) (by omega)
    | some d => exact machOk_deed (machOk_run h ds i) d
noncomputable def madeM (k : Int) (ws : List WordV) (ds : List DeedV) : MachM × Bool :=
  if (cnewM k ws).2 = 0 ∧ fewD ws ds = true then (runD (cnewM k ws).1 ds ds.length, true) else ((cnewM k ws).1, false)
theorem few_len {ws : List WordV} {ds : List DeedV} (h : fewD ws ds = true) : ws.length ≤ 20 ∧ ds.length ≤ 80 := by
  unfold fewD at h
  rw [Bool.and_eq_true] at h
  exact of_decide_eq_true h.2
theorem machOk_made (k : Int) (ws : List WordV) (ds : List DeedV) : MachOk (madeM k ws ds).1 81 := by
  unfold madeM
  split
  · rename_i h
    have := few_len h.2
    exact machOk_up (machOk_run (machOk_new k ws) ds ds.length) (by omega)
  · exact machOk_up (machOk_new k ws) (by omega)
abbrev boxC (M : MachM) : Ob := .box 99 (cMach M)
def MdInv (g2 : Nat) (ds : List DeedV) (M : MachM) (m : Nat) (S : St) : Prop :=
  ∃ i : Nat, i ≤ ds.length ∧ m = ds.length - i ∧ S = ⟨[(6, .ptr 0 0 0), (8, .ptr 1 0 0), (30, .sl 11 g2 (ds.map eDeed)), (31, sI ds.length), (32, sI i)], [(0, .box 99 [.sl 1 0 [], .sl 1 0 [], .sl 3 0 [], .sl 2 0 [], .mp 3 fun _ => none, .sl 1 0 [], sI 0]), (1, boxC (runD M ds i))], 2⟩
set_option maxHeartbeats 4000000 in
theorem ok_l6made (k : Int) (g : Nat) (ws : List WordV) (g2 : Nat) (ds : List DeedV) (hd : ds.length ≤ 9223372036854775807) : Ok 36 [sI k, .sl 3 g (ws.map eWord), .sl 11 g2 (ds.map eDeed)] (.tup [eMach (madeM k ws ds).1, sB (madeM k ws ds).2]) := by
  refine ok_of_tr Try.func36 tr_l6made rfl ?_
  have c0 := ok_cNew k g ws
  have c1 := ok_l6Few g ws g2 ds hd
  have hM := machOk_new k ws
  unfold madeM
  generalize cnewM k ws = R at c0 hM ⊢
  obtain ⟨M, e⟩ := R
  simp only at c0 hM ⊢
  by_cases h1 : e = 0
  case neg =>
    rw [if_neg (fun h => h1 h.1)]
    have d : (e != 0) = true := by simpa using h1
    unfold evFn sc_l6made rv_l6made
    have F1 := @d
    refine ev_seq_k fun K1 hn1 hr1 he1 => ?_
    refine ev_ops_k fun K2 hk2 => ?_
    refine sh1 F1 ?_
    refine hk2 _ ?_
    refine hn1 (some ([0, 1, 2, 6], none)) _ ?_
    refine ev_seq_k fun K3 hn3 hr3 he3 => ?_
    refine ev_ops_k fun K4 hk4 => ?_
    refine evL_take 2 fun K5 hk5 => ?_
    refine sh1 F1 ?_
    refine hk5 _ ?_
    refine evL_take 1 fun K6 hk6 => ?_
    refine sh1 F1 ?_
    refine Or.inl (Or.inl ⟨_, c0, ?_⟩)
    refine hk6 _ ?_
    refine evL_take 5 fun K7 hk7 => ?_
    refine sh1 F1 ?_
    refine sd ?_
    refine hk7 _ ?_
    refine sh1 F1 ?_
    refine hk4 _ ?_
    refine hn3 (some ([1, 2, 6, 8, 9], none)) _ ?_
    refine ev_seq_k fun K8 hn8 hr8 he8 => ?_
    refine ev_seq_k fun K9 hn9 hr9 he9 => ?_
    refine ev_ops_k fun K10 hk10 => ?_
    refine evL_take 2 fun K11 hk11 => ?_
    refine sh1 F1 ?_
    refine sd ?_
    refine hk11 _ ?_
    refine evL_take 3 fun K12 hk12 => ?_
    refine sh1 F1 ?_
    refine hk12 _ ?_
    refine evL_take 1 fun K13 hk13 => ?_
    refine sh1 F1 ?_
    skip
    refine hk13 _ ?_
    refine sh1 F1 ?_
    refine hk10 _ ?_
    refine hn9 (some ([2, 6, 8, 28], none)) _ ?_
    refine ev_cond_k rfl (fun hc0 => ?_) (fun hx => absurd hx (by simp at hx))
    clear hc0
    refine ev_seq_k fun K14 hn14 hr14 he14 => ?_
    refine ev_ops_k fun K15 hk15 => ?_
    refine evL_take 1 fun K16 hk16 => ?_
    refine sh1 F1 ?_
    refine sd ?_
    refine hk16 _ ?_
    refine evL_take 1 fun K17 hk17 => ?_
    refine sh1 F1 ?_
    refine sd ?_
    refine hk17 _ ?_
    refine sh1 F1 ?_
    refine hk15 _ ?_
    refine hn14 (some ([6, 7], none)) _ ?_
    refine hr8 _ ?_
    exact sf1 F1
  subst h1
  by_cases h2 : fewD ws ds = true
  case neg =>
    rw [if_neg (fun h => h2 h.2)]
    have h2 : fewD ws ds = false := by simpa using h2
    rw [h2] at c1
    unfold evFn sc_l6made rv_l6made
    refine ev_seq_k fun K1 hn1 hr1 he1 => ?_
    refine ev_ops_k fun K2 hk2 => ?_
    refine sh0 ?_
    refine hk2 _ ?_
    refine hn1 (some ([0, 1, 2, 6], none)) _ ?_
    refine ev_seq_k fun K3 hn3 hr3 he3 => ?_
    refine ev_ops_k fun K4 hk4 => ?_
    refine evL_take 2 fun K5 hk5 => ?_
    refine sh0 ?_
    refine hk5 _ ?_
    refine evL_take 1 fun K6 hk6 => ?_
    refine sh0 ?_
    refine Or.inl (Or.inl ⟨_, c0, ?_⟩)
    refine hk6 _ ?_
    refine evL_take 5 fun K7 hk7 => ?_
    refine sh0 ?_
    refine sd ?_
    refine hk7 _ ?_
    refine sh0 ?_
    refine hk4 _ ?_
    refine hn3 (some ([1, 2, 6, 8, 9], none)) _ ?_
    refine ev_seq_k fun K8 hn8 hr8 he8 => ?_
    refine ev_seq_k fun K9 hn9 hr9 he9 => ?_
    refine ev_ops_k fun K10 hk10 => ?_
    refine evL_take 2 fun K11 hk11 => ?_
    refine sh0 ?_
    refine sd ?_
    refine hk11 _ ?_
    refine evL_take 3 fun K12 hk12 => ?_
    refine sh0 ?_
    refine hk12 _ ?_
    refine evL_take 1 fun K13 hk13 => ?_
    refine sh0 ?_
    refine Or.inl (Or.inl ⟨_, c1, ?_⟩)
    refine hk13 _ ?_
    refine sh0 ?_
    refine hk10 _ ?_
    refine hn9 (some ([2, 6, 8, 28], none)) _ ?_
    refine ev_cond_k rfl (fun hc0 => ?_) (fun hx => absurd hx (by simp at hx))
    clear hc0
    refine ev_seq_k fun K14 hn14 hr14 he14 => ?_
    refine ev_ops_k fun K15 hk15 => ?_
    refine evL_take 1 fun K16 hk16 => ?_
    refine sh0 ?_
    refine sd ?_
    refine hk16 _ ?_
    refine evL_take 1 fun K17 hk17 => ?_
    refine sh0 ?_
    refine sd ?_
    refine hk17 _ ?_
    refine sh0 ?_
    refine hk15 _ ?_
    refine hn14 (some ([6, 7], none)) _ ?_
    refine hr8 _ ?_
    exact sf0
  rw [if_pos ⟨rfl, h2⟩]
  rw [h2] at c1
  have hln := few_len h2
  unfold evFn sc_l6made rv_l6made
  refine ev_seq_k fun K1 hn1 hr1 he1 => ?_
  refine ev_ops_k fun K2 hk2 => ?_
  refine sh0 ?_
  refine hk2 _ ?_
  refine hn1 (some ([0, 1, 2, 6], none)) _ ?_
  refine ev_seq_k fun K3 hn3 hr3 he3 => ?_
  refine ev_ops_k fun K4 hk4 => ?_
  refine evL_take 2 fun K5 hk5 => ?_
  refine sh0 ?_
  refine hk5 _ ?_
  refine evL_take 1 fun K6 hk6 => ?_
  refine sh0 ?_
  refine Or.inl (Or.inl ⟨_, c0, ?_⟩)
  refine hk6 _ ?_
  refine evL_take 5 fun K7 hk7 => ?_
  refine sh0 ?_
  refine sd ?_
  refine hk7 _ ?_
  refine sh0 ?_
  refine hk4 _ ?_
  refine hn3 (some ([1, 2, 6, 8, 9], none)) _ ?_
  refine ev_seq_k fun K8 hn8 hr8 he8 => ?_
  refine ev_seq_k fun K9 hn9 hr9 he9 => ?_
  refine ev_ops_k fun K10 hk10 => ?_
  refine evL_take 2 fun K11 hk11 => ?_
  refine sh0 ?_
  refine sd ?_
  refine hk11 _ ?_
  refine evL_take 3 fun K12 hk12 => ?_
  refine sh0 ?_
  refine hk12 _ ?_
  refine evL_take 1 fun K13 hk13 => ?_
  refine sh0 ?_
  refine Or.inl (Or.inl ⟨_, c1, ?_⟩)
  refine hk13 _ ?_
  refine sh0 ?_
  refine hk10 _ ?_
  refine hn9 (some ([2, 6, 8, 28], none)) _ ?_
  refine ev_cond_k rfl (fun hx => absurd hx (by simp at hx)) (fun hc0 => ?_)
  clear hc0
  refine hn8 (some ([2, 6, 8], none)) _ ?_
  refine ev_seq_k fun K14 hn14 hr14 he14 => ?_
  refine ev_seq_k fun K15 hn15 hr15 he15 => ?_
  refine ev_ops_k fun K16 hk16 => ?_
  refine sh0 ?_
  refine hk16 _ ?_
  refine hn15 (some ([6, 8, 30, 31, 32], none)) _ ?_
  refine ev_block_k fun K17 hn17 hx17 hr17 he17 => ?_
  refine ev_loop_k (MdInv g2 ds M) (ds.length) (some ([6, 8, 30, 31, 32], some ([0, 1], 2))) ([]) ?_ ?_
  · try refine lp0 ?_
    exact ⟨0, by omega, by omega, rfl⟩
  · intro k S1 hI
    obtain ⟨i, hi, rfl, rfl⟩ := hI
    have hcase : i = ds.length ∨ (∃ x, ds[i]? = some x ∧ x.crash = true) ∨ (∃ x, ds[i]? = some x ∧ x.crash = false) := by
      rcases Nat.lt_or_ge i ds.length with h | h
      · have hx := List.getElem?_eq_getElem h
        cases hc : (ds[i]).crash
        · exact .inr (.inr ⟨_, hx, hc⟩)
        · exact .inr (.inl ⟨_, hx, hc⟩)
      · exact .inl (by omega)
    intro K18 hn18 hr18 he18
    rcases hcase with hcc | ⟨x, hx0, hcr⟩ | ⟨x, hx0, hcr⟩
    · skip
      subst hcc
      have w2 : ¬ (ds.length : Int) < (ds.length : Int) := by omega
      have F1 := @w2
      refine ev_seq_k fun K19 hn19 hr19 he19 => ?_
      refine ev_ops_k fun K20 hk20 => ?_
      refine sh1 F1 ?_
      refine sd ?_
      refine hk20 _ ?_
      refine hn19 (some ([6, 8, 30, 31, 32, 33], none)) _ ?_
      refine ev_seq_k fun K21 hn21 hr21 he21 => ?_
      refine ev_cond_k rfl (fun hx => absurd hx (by simp at hx)) (fun hc1 => ?_)
      clear hc1
      refine he21 0 _ ?_
      refine he18 0 _ ?_
      refine hx17 _ ?_
      refine hn14 (some ([6, 8], none)) _ ?_
      refine ev_seq_k fun K22 hn22 hr22 he22 => ?_
      refine ev_ops_k fun K23 hk23 => ?_
      refine evL_take 1 fun K24 hk24 => ?_
      refine sh1 F1 ?_
      refine sd ?_
      refine hk24 _ ?_
      refine evL_take 1 fun K25 hk25 => ?_
      refine sh1 F1 ?_
      refine sd ?_
      refine hk25 _ ?_
      refine sh1 F1 ?_
      refine hk23 _ ?_
      refine hn22 (some ([6, 7], none)) _ ?_
      exact sf1 F1
    · skip
      skip
      have hlt := (List.getElem?_eq_some_iff.1 hx0).1
      have w2 : (i : Int) < (ds.length : Int) := by omega
      have w3 : IntKind.i64.wrap ((i : Int) + 1) = ((i + 1 : Nat) : Int) := by rw [IntKind.wrap_i64]; omega
      have k1 := ok_cCrash (runD M ds i) x.choice (machOk_run hM ds i) (by omega)
      have hs := runD_succ (M := M) hx0
      unfold deedM at hs
      rw [if_pos hcr] at hs
      generalize crashM (runD M ds i) x.choice = Q at k1 hs
      generalize runD M ds i = B at k1
      have F2 := And.intro @w2 (And.intro @w3 (And.intro @hx0 @hcr))
      refine ev_seq_k fun K26 hn26 hr26 he26 => ?_
      refine ev_ops_k fun K27 hk27 => ?_
      refine sh1 F2 ?_
      refine sd ?_
      refine hk27 _ ?_
      refine hn26 (some ([6, 8, 30, 31, 32, 33], none)) _ ?_
      refine ev_seq_k fun K28 hn28 hr28 he28 => ?_
      refine ev_cond_k rfl (fun hc1 => ?_) (fun hx => absurd hx (by simp at hx))
      clear hc1
      refine hn28 (some ([6, 8, 30, 31, 32], none)) _ ?_
      refine ev_seq_k fun K29 hn29 hr29 he29 => ?_
      refine ev_block_k fun K30 hn30 hx30 hr30 he30 => ?_
      refine ev_seq_k fun K31 hn31 hr31 he31 => ?_
      refine ev_ops_k fun K32 hk32 => ?_
      refine evL_take 1 fun K33 hk33 => ?_
      refine sh1 F2 ?_
      refine sd ?_
      refine hk33 _ ?_
      refine evL_take 1 fun K34 hk34 => ?_
      refine sh1 F2 ?_
      refine sd ?_
      refine hk34 _ ?_
      refine sh1 F2 ?_
      refine sd ?_
      refine hk32 _ ?_
      refine hn31 (some ([6, 8, 11, 30, 31, 32], none)) _ ?_
      refine ev_seq_k fun K35 hn35 hr35 he35 => ?_
      refine ev_ops_k fun K36 hk36 => ?_
      refine sh1 F2 ?_
      refine sd ?_
      refine hk36 _ ?_
      refine hn35 (some ([6, 8, 11, 30, 31, 32, 37], none)) _ ?_
      refine ev_cond_k rfl (fun hc2 => ?_) (fun hx => absurd hx (by simp at hx))
      clear hc2
      refine ev_ops_k fun K37 hk37 => ?_
      refine evL_take 1 fun K38 hk38 => ?_
      refine sh1 F2 ?_
      refine sd ?_
      refine hk38 _ ?_
      refine evL_take 2 fun K39 hk39 => ?_
      refine sh1 F2 ?_
      refine sd ?_
      refine hk39 _ ?_
      refine evL_take 1 fun K40 hk40 => ?_
      refine sh1 F2 ?_
      refine Or.inl (Or.inl ⟨_, k1, ?_⟩)
      refine hk40 _ ?_
      refine sh1 F2 ?_
      refine sd ?_
      refine hk37 _ ?_
      refine hn30 _ ?_
      refine hn29 (some ([6, 8, 30, 31, 32], none)) _ ?_
      refine ev_ops_k fun K41 hk41 => ?_
      refine evL_take 1 fun K42 hk42 => ?_
      refine sh1 F2 ?_
      refine sd ?_
      refine hk42 _ ?_
      refine sh1 F2 ?_
      refine hk41 _ ?_
      refine hn18 (ds.length - (i + 1)) (some ([6, 8, 30, 31, 32], some ([0, 1], 2))) _ ?_ ?_
      all_goals try refine lp0 ?_
      · omega
      · exact ⟨i + 1, by omega, by omega, by rw [hs]⟩
    · skip
      skip
      have hlt := (List.getElem?_eq_some_iff.1 hx0).1
      have w2 : (i : Int) < (ds.length : Int) := by omega
      have w3 : IntKind.i64.wrap ((i : Int) + 1) = ((i + 1 : Nat) : Int) := by rw [IntKind.wrap_i64]; omega
      have k1 := ok_cDo (runD M ds i) x.thread x.act x.choice (machOk_run hM ds i) (by omega)
      have hs := runD_succ (M := M) hx0
      unfold deedM at hs
      rw [if_neg (by rw [hcr]; simp)] at hs
      have hsame : (doM (runD M ds i) x.thread x.act x.choice).2.2 ≠ 0 → (doM (runD M ds i) x.thread x.act x.choice).1 = runD M ds i := by
        unfold doM; split
        · intro h; exact absurd rfl h
        · intro _; rfl
      generalize doM (runD M ds i) x.thread x.act x.choice = Q at k1 hs hsame
      generalize runD M ds i = B at k1 hsame
      have F3 := And.intro @w2 (And.intro @w3 (And.intro @hx0 @hcr))
      refine ev_seq_k fun K43 hn43 hr43 he43 => ?_
      refine ev_ops_k fun K44 hk44 => ?_
      refine sh1 F3 ?_
      refine sd ?_
      refine hk44 _ ?_
      refine hn43 (some ([6, 8, 30, 31, 32, 33], none)) _ ?_
      refine ev_seq_k fun K45 hn45 hr45 he45 => ?_
      refine ev_cond_k rfl (fun hc1 => ?_) (fun hx => absurd hx (by simp at hx))
      clear hc1
      refine hn45 (some ([6, 8, 30, 31, 32], none)) _ ?_
      refine ev_seq_k fun K46 hn46 hr46 he46 => ?_
      refine ev_block_k fun K47 hn47 hx47 hr47 he47 => ?_
      refine ev_seq_k fun K48 hn48 hr48 he48 => ?_
      refine ev_ops_k fun K49 hk49 => ?_
      refine evL_take 1 fun K50 hk50 => ?_
      refine sh1 F3 ?_
      refine sd ?_
      refine hk50 _ ?_
      refine evL_take 1 fun K51 hk51 => ?_
      refine sh1 F3 ?_
      refine sd ?_
      refine hk51 _ ?_
      refine sh1 F3 ?_
      refine sd ?_
      refine hk49 _ ?_
      refine hn48 (some ([6, 8, 11, 30, 31, 32], none)) _ ?_
      refine ev_seq_k fun K52 hn52 hr52 he52 => ?_
      refine ev_ops_k fun K53 hk53 => ?_
      refine sh1 F3 ?_
      refine sd ?_
      refine hk53 _ ?_
      refine hn52 (some ([6, 8, 11, 30, 31, 32, 37], none)) _ ?_
      refine ev_cond_k rfl (fun hx => absurd hx (by simp at hx)) (fun hc2 => ?_)
      clear hc2
      refine ev_seq_k fun K54 hn54 hr54 he54 => ?_
      refine ev_ops_k fun K55 hk55 => ?_
      refine evL_take 1 fun K56 hk56 => ?_
      refine sh1 F3 ?_
      refine sd ?_
      refine hk56 _ ?_
      refine evL_take 2 fun K57 hk57 => ?_
      refine sh1 F3 ?_
      refine sd ?_
      refine hk57 _ ?_
      refine evL_take 2 fun K58 hk58 => ?_
      refine sh1 F3 ?_
      refine sd ?_
      refine hk58 _ ?_
      refine evL_take 2 fun K59 hk59 => ?_
      refine sh1 F3 ?_
      refine sd ?_
      refine hk59 _ ?_
      refine evL_take 1 fun K60 hk60 => ?_
      refine sh1 F3 ?_
      refine Or.inl (Or.inl ⟨_, k1, ?_⟩)
      refine hk60 _ ?_
      refine evL_take 7 fun K61 hk61 => ?_
      refine sh1 F3 ?_
      refine sd ?_
      refine hk61 _ ?_
      refine evL_take 1 fun K62 hk62 => ?_
      refine sh1 F3 ?_
      refine sd ?_
      refine hk62 _ ?_
      refine sh1 F3 ?_
      refine hk55 _ ?_
      refine hn54 (some ([6, 8, 12, 14, 30, 31, 32], none)) _ ?_
      refine ev_seq_k fun K63 hn63 hr63 he63 => ?_
      refine ev_ops_k fun K64 hk64 => ?_
      refine sh1 F3 ?_
      refine sd ?_
      refine hk64 _ ?_
      refine hn63 (some ([6, 8, 12, 30, 31, 32, 55], none)) _ ?_
      refine ev_cond_k rfl (fun hc3 => ?_) (fun hc3 => ?_)
      · try replace hc3 := hcS hc3
        refine ev_ops_k fun K65 hk65 => ?_
        refine evL_take 1 fun K66 hk66 => ?_
        refine sh1 F3 ?_
        refine sd ?_
        refine hk66 _ ?_
        refine sh1 F3 ?_
        refine sd ?_
        refine hk65 _ ?_
        refine hn47 _ ?_
        refine hn46 (some ([6, 8, 30, 31, 32], none)) _ ?_
        refine ev_ops_k fun K67 hk67 => ?_
        refine evL_take 1 fun K68 hk68 => ?_
        refine sh1 F3 ?_
        refine sd ?_
        refine hk68 _ ?_
        refine sh1 F3 ?_
        refine hk67 _ ?_
        refine hn18 (ds.length - (i + 1)) (some ([6, 8, 30, 31, 32], some ([0, 1], 2))) _ ?_ ?_
        all_goals try refine lp0 ?_
        · omega
        · refine ⟨i + 1, by omega, by omega, ?_⟩
          first | (rw [hs]; done) | (rw [hs, hsame hc3]; done) | (rw [hs, hsame hc3]; rfl)
      · try replace hc3 := hcS hc3
        refine hn47 _ ?_
        refine hn46 (some ([6, 8, 30, 31, 32], none)) _ ?_
        refine ev_ops_k fun K69 hk69 => ?_
        refine evL_take 1 fun K70 hk70 => ?_
        refine sh1 F3 ?_
        refine sd ?_
        refine hk70 _ ?_
        refine sh1 F3 ?_
        refine hk69 _ ?_
        refine hn18 (ds.length - (i + 1)) (some ([6, 8, 30, 31, 32], some ([0, 1], 2))) _ ?_ ?_
        all_goals try refine lp0 ?_
        · omega
        · refine ⟨i + 1, by omega, by omega, ?_⟩
          first | (rw [hs]; done) | (rw [hs, hsame hc3]; done) | (rw [hs, hsame hc3]; rfl)
end Go.Proofs.Ytfcjkchpldfamaa
