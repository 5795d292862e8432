/-
  Layer 6 by shadows: the helpers of the laws.
-/
import Derived.Test.YtkoibcblmgmdmaaK6b
import Derived.Test.YtkoibcblmgmdmaaMC
namespace Go.Proofs.Ytkoibcblmgmdmaa
set_option linter.unusedSimpArgs false
set_option linter.unusedVariables false
open Go.RowKit Go.Maps

structure DeedV where
  crash : Bool
  thread : Int
  act : ActM
  choice : Int
abbrev eDeed (d : DeedV) : List Sh := [sB d.crash, sI d.thread, sI d.act.op, sI d.act.place, sI d.act.old.val, sU d.act.old.ver, sU d.act.old.ref, sI d.act.new.val, sU d.act.new.ver, sU d.act.new.ref, sI d.choice]
def smallD (d : DeedV) : Bool := decide (-1048576 ≤ d.choice ∧ d.choice ≤ 1048576)
def fewD (ws : List WordV) (ds : List DeedV) : Bool := ds.all smallD && decide (ws.length ≤ 20 ∧ ds.length ≤ 80)
def FewInv (g : Nat) (ws : List WordV) (g2 : Nat) (ds : List DeedV) (m : Nat) (S : St) : Prop :=
  ∃ i : Nat, i ≤ ds.length ∧ m = ds.length - i ∧ (ds.take i).all smallD = true ∧ S = ⟨[(0, .sl 3 g (ws.map eWord)), (1, .sl 11 g2 (ds.map eDeed)), (7, .sl 11 g2 (ds.map eDeed)), (8, sI ds.length), (9, sI i)], [], 0⟩
set_option maxHeartbeats 2000000 in
theorem ok_l6Few (g : Nat) (ws : List WordV) (g2 : Nat) (ds : List DeedV) (hd : ds.length ≤ 9223372036854775807) : Ok 7 [.sl 3 g (ws.map eWord), .sl 11 g2 (ds.map eDeed)] (sB (fewD ws ds)) := by
  refine ok_of_tr Try.func7 tr_l6Few rfl ?_
  unfold fewD
  unfold evFn sc_l6Few rv_l6Few
  refine eS fun K1 hn1 hr1 he1 => ?_
  refine eO fun K2 hk2 => ?_
  refine tL0 ?_
  refine hk2 _ ?_
  refine hn1 (some ([0, 1], none)) _ ?_
  refine eS fun K3 hn3 hr3 he3 => ?_
  refine eS fun K4 hn4 hr4 he4 => ?_
  refine eO fun K5 hk5 => ?_
  refine tL0 ?_
  refine hk5 _ ?_
  refine hn4 (some ([0, 1, 7, 8, 9], none)) _ ?_
  refine eB fun K6 hn6 hx6 hr6 he6 => ?_
  refine eW (FewInv g ws g2 ds) (ds.length) (some ([0, 1, 7, 8, 9], some ([], 0))) ([]) ?_ ?_
  · try refine lp0 ?_
    exact ⟨0, by omega, by omega, rfl, rfl⟩
  · intro k S1 hI
    obtain ⟨i, hi, rfl, hall, rfl⟩ := hI
    have hcase : (i = ds.length ∧ ws.length ≤ 20) ∨ (i = ds.length ∧ ¬ ws.length ≤ 20) ∨ (∃ x, ds[i]? = some x ∧ smallD x = true) ∨ (∃ x, ds[i]? = some x ∧ x.choice < -1048576) ∨ ∃ x, ds[i]? = some x ∧ ¬ x.choice < -1048576 ∧ 1048576 < x.choice := by
      rcases Nat.lt_or_ge i ds.length with h | h
      · have hx := List.getElem?_eq_getElem h
        by_cases h1 : (ds[i]).choice < -1048576
        · exact .inr (.inr (.inr (.inl ⟨_, hx, h1⟩)))
        · by_cases h2 : 1048576 < (ds[i]).choice
          · exact .inr (.inr (.inr (.inr ⟨_, hx, h1, h2⟩)))
          · exact .inr (.inr (.inl ⟨_, hx, decide_eq_true ⟨by omega, by omega⟩⟩))
      · by_cases h1 : ws.length ≤ 20
        · exact .inl ⟨by omega, h1⟩
        · exact .inr (.inl ⟨by omega, h1⟩)
    intro K7 hn7 hr7 he7
    rcases hcase with ⟨hcc, hw⟩ | ⟨hcc, hw⟩ | ⟨x, hx0, hs⟩ | ⟨x, hx0, hs⟩ | ⟨x, hx0, hs, hs2⟩
    · skip
      subst hcc
      have w2 : ¬ (ds.length : Int) < (ds.length : Int) := by omega
      rw [List.take_of_length_le (Nat.le_refl _)] at hall
      have w3 : (ws.length : Int) ≤ 20 := by omega
      have w4 : (ds.all smallD && decide (ws.length ≤ 20 ∧ ds.length ≤ 80)) = decide ((ds.length : Int) ≤ 80) := by
        rw [hall, Bool.true_and]
        exact decide_eq_decide.2 ⟨fun h => by omega, fun h => ⟨hw, by omega⟩⟩
      have F1 := And.intro @w2 (And.intro @w3 @w4)
      refine eS fun K8 hn8 hr8 he8 => ?_
      refine eO fun K9 hk9 => ?_
      refine tZ F1 ?_
      refine hk9 _ ?_
      refine hn8 (some ([0, 1, 7, 8, 9, 10], none)) _ ?_
      refine eS fun K10 hn10 hr10 he10 => ?_
      refine eCf ?_
      refine he10 0 _ ?_
      refine he7 0 _ ?_
      refine hx6 _ ?_
      refine hn3 (some ([0, 1], none)) _ ?_
      refine eS fun K11 hn11 hr11 he11 => ?_
      refine eO fun K12 hk12 => ?_
      refine tC 3 F1 ?_
      refine tC 4 F1 ?_
      refine tL F1 ?_
      refine hk12 _ ?_
      refine hn11 (some ([4], none)) _ ?_
      exact sf1 F1
    · skip
      subst hcc
      have w2 : ¬ (ds.length : Int) < (ds.length : Int) := by omega
      have w3 : ¬ (ws.length : Int) ≤ 20 := by omega
      have w4 : (ds.all smallD && decide (ws.length ≤ 20 ∧ ds.length ≤ 80)) = false := by
        rw [show decide (ws.length ≤ 20 ∧ ds.length ≤ 80) = false from decide_eq_false (fun h => hw h.1), Bool.and_false]
      have F2 := And.intro @w2 (And.intro @w3 @w4)
      refine eS fun K13 hn13 hr13 he13 => ?_
      refine eO fun K14 hk14 => ?_
      refine tZ F2 ?_
      refine hk14 _ ?_
      refine hn13 (some ([0, 1, 7, 8, 9, 10], none)) _ ?_
      refine eS fun K15 hn15 hr15 he15 => ?_
      refine eCf ?_
      refine he15 0 _ ?_
      refine he7 0 _ ?_
      refine hx6 _ ?_
      refine hn3 (some ([0, 1], none)) _ ?_
      refine eS fun K16 hn16 hr16 he16 => ?_
      refine eO fun K17 hk17 => ?_
      refine tC 3 F2 ?_
      refine tC 4 F2 ?_
      refine tL F2 ?_
      refine hk17 _ ?_
      refine hn16 (some ([4], none)) _ ?_
      exact sf1 F2
    · skip
      skip
      have hlt := (List.getElem?_eq_some_iff.1 hx0).1
      have w2 : (i : Int) < (ds.length : Int) := by omega
      have w3 : IntKind.i64.wrap ((i : Int) + 1) = ((i + 1 : Nat) : Int) := by rw [IntKind.wrap_i64]; omega
      have hs' := of_decide_eq_true hs
      have w4 : ¬ x.choice < -1048576 := by omega
      have w5 : ¬ 1048576 < x.choice := by omega
      have F3 := And.intro @w2 (And.intro @w3 (And.intro @w4 (And.intro @w5 @hx0)))
      refine eS fun K18 hn18 hr18 he18 => ?_
      refine eO fun K19 hk19 => ?_
      refine tZ F3 ?_
      refine hk19 _ ?_
      refine hn18 (some ([0, 1, 7, 8, 9, 10], none)) _ ?_
      refine eS fun K20 hn20 hr20 he20 => ?_
      refine eCt ?_
      refine hn20 (some ([0, 1, 7, 8, 9], none)) _ ?_
      refine eS fun K21 hn21 hr21 he21 => ?_
      refine eB fun K22 hn22 hx22 hr22 he22 => ?_
      refine eS fun K23 hn23 hr23 he23 => ?_
      refine eO fun K24 hk24 => ?_
      refine tC 1 F3 ?_
      refine tC 1 F3 ?_
      refine tZ F3 ?_
      refine hk24 _ ?_
      refine hn23 (some ([0, 1, 6, 7, 8, 9], none)) _ ?_
      refine eS fun K25 hn25 hr25 he25 => ?_
      refine eO fun K26 hk26 => ?_
      refine tC 2 F3 ?_
      refine tC 1 F3 ?_
      refine tC 3 F3 ?_
      refine tC 1 F3 ?_
      refine tL F3 ?_
      refine hk26 _ ?_
      refine hn25 (some ([0, 1, 7, 8, 9, 20], none)) _ ?_
      refine eCf ?_
      refine hn22 _ ?_
      refine hn21 (some ([0, 1, 7, 8, 9], none)) _ ?_
      refine eO fun K27 hk27 => ?_
      refine tC 1 F3 ?_
      refine tL F3 ?_
      refine hk27 _ ?_
      refine hn7 (ds.length - (i + 1)) (some ([0, 1, 7, 8, 9], some ([], 0))) _ ?_ ?_
      all_goals try refine lp0 ?_
      · omega
      · refine ⟨i + 1, by omega, by omega, ?_, rfl⟩
        rw [List.take_add_one, hx0]
        simp [hall, hs]
    · skip
      skip
      have hlt := (List.getElem?_eq_some_iff.1 hx0).1
      have w2 : (i : Int) < (ds.length : Int) := by omega
      have w4 : (ds.all smallD && decide (ws.length ≤ 20 ∧ ds.length ≤ 80)) = false := by
        rw [show ds.all smallD = false from List.all_eq_false.2 ⟨x, List.mem_of_getElem? hx0, by unfold smallD; simp; omega⟩, Bool.false_and]
      have F4 := And.intro @w2 (And.intro @hs (And.intro @hx0 @w4))
      refine eS fun K28 hn28 hr28 he28 => ?_
      refine eO fun K29 hk29 => ?_
      refine tZ F4 ?_
      refine hk29 _ ?_
      refine hn28 (some ([0, 1, 7, 8, 9, 10], none)) _ ?_
      refine eS fun K30 hn30 hr30 he30 => ?_
      refine eCt ?_
      refine hn30 (some ([0, 1, 7, 8, 9], none)) _ ?_
      refine eS fun K31 hn31 hr31 he31 => ?_
      refine eB fun K32 hn32 hx32 hr32 he32 => ?_
      refine eS fun K33 hn33 hr33 he33 => ?_
      refine eO fun K34 hk34 => ?_
      refine tC 1 F4 ?_
      refine tC 1 F4 ?_
      refine tZ F4 ?_
      refine hk34 _ ?_
      refine hn33 (some ([0, 1, 6, 7, 8, 9], none)) _ ?_
      refine eS fun K35 hn35 hr35 he35 => ?_
      refine eO fun K36 hk36 => ?_
      refine tC 2 F4 ?_
      refine tC 1 F4 ?_
      refine tC 3 F4 ?_
      refine tC 1 F4 ?_
      refine tL F4 ?_
      refine hk36 _ ?_
      refine hn35 (some ([0, 1, 7, 8, 9, 20], none)) _ ?_
      refine eCt ?_
      refine eS fun K37 hn37 hr37 he37 => ?_
      refine eO fun K38 hk38 => ?_
      refine tL F4 ?_
      refine hk38 _ ?_
      refine hn37 (some ([4], none)) _ ?_
      refine hr32 _ ?_
      refine hr31 _ ?_
      refine hr7 _ ?_
      refine hr6 _ ?_
      refine hr3 _ ?_
      exact sf1 F4
    · skip
      skip
      have hlt := (List.getElem?_eq_some_iff.1 hx0).1
      have w2 : (i : Int) < (ds.length : Int) := by omega
      have w4 : (ds.all smallD && decide (ws.length ≤ 20 ∧ ds.length ≤ 80)) = false := by
        rw [show ds.all smallD = false from List.all_eq_false.2 ⟨x, List.mem_of_getElem? hx0, by unfold smallD; simp; omega⟩, Bool.false_and]
      have F5 := And.intro @w2 (And.intro @hs (And.intro @hs2 (And.intro @hx0 @w4)))
      refine eS fun K39 hn39 hr39 he39 => ?_
      refine eO fun K40 hk40 => ?_
      refine tZ F5 ?_
      refine hk40 _ ?_
      refine hn39 (some ([0, 1, 7, 8, 9, 10], none)) _ ?_
      refine eS fun K41 hn41 hr41 he41 => ?_
      refine eCt ?_
      refine hn41 (some ([0, 1, 7, 8, 9], none)) _ ?_
      refine eS fun K42 hn42 hr42 he42 => ?_
      refine eB fun K43 hn43 hx43 hr43 he43 => ?_
      refine eS fun K44 hn44 hr44 he44 => ?_
      refine eO fun K45 hk45 => ?_
      refine tC 1 F5 ?_
      refine tC 1 F5 ?_
      refine tZ F5 ?_
      refine hk45 _ ?_
      refine hn44 (some ([0, 1, 6, 7, 8, 9], none)) _ ?_
      refine eS fun K46 hn46 hr46 he46 => ?_
      refine eO fun K47 hk47 => ?_
      refine tC 2 F5 ?_
      refine tC 1 F5 ?_
      refine tC 3 F5 ?_
      refine tC 1 F5 ?_
      refine tL F5 ?_
      refine hk47 _ ?_
      refine hn46 (some ([0, 1, 7, 8, 9, 20], none)) _ ?_
      refine eCt ?_
      refine eS fun K48 hn48 hr48 he48 => ?_
      refine eO fun K49 hk49 => ?_
      refine tL F5 ?_
      refine hk49 _ ?_
      refine hn48 (some ([4], none)) _ ?_
      refine hr43 _ ?_
      refine hr42 _ ?_
      refine hr7 _ ?_
      refine hr6 _ ?_
      refine hr3 _ ?_
      exact sf1 F5
def AlInv (g : Nat) (g2 : Nat) (a : List WordV) (m : Nat) (S : St) : Prop :=
  ∃ i : Nat, i ≤ a.length ∧ m = a.length - i ∧ S = ⟨[(0, .sl 3 g (a.map eWord)), (1, .sl 3 g2 (a.map eWord)), (12, sI a.length), (13, sI i)], [], 0⟩
theorem ok_l6alike (g g2 : Nat) (a : List WordV) (ha : a.length ≤ 9223372036854775807) : Ok 14 [.sl 3 g (a.map eWord), .sl 3 g2 (a.map eWord)] (sB true) := by
  refine ok_of_tr Try.func14 tr_l6alike rfl ?_
  unfold evFn sc_l6alike rv_l6alike
  refine eS fun K1 hn1 hr1 he1 => ?_
  refine eO fun K2 hk2 => ?_
  refine tL0 ?_
  refine hk2 _ ?_
  refine hn1 (some ([0, 1], none)) _ ?_
  refine eS fun K3 hn3 hr3 he3 => ?_
  refine eS fun K4 hn4 hr4 he4 => ?_
  refine eO fun K5 hk5 => ?_
  refine tZ0 ?_
  refine hk5 _ ?_
  refine hn4 (some ([0, 1, 10], none)) _ ?_
  refine eCf ?_
  refine hn3 (some ([0, 1], none)) _ ?_
  refine eS fun K6 hn6 hr6 he6 => ?_
  refine eS fun K7 hn7 hr7 he7 => ?_
  refine eO fun K8 hk8 => ?_
  refine tL0 ?_
  refine hk8 _ ?_
  refine hn7 (some ([0, 1, 12, 13], none)) _ ?_
  refine eB fun K9 hn9 hx9 hr9 he9 => ?_
  refine eW (AlInv g g2 a) (a.length) (some ([0, 1, 12, 13], some ([], 0))) ([]) ?_ ?_
  · try refine lp0 ?_
    exact ⟨0, by omega, by omega, rfl⟩
  · intro k S1 hI
    obtain ⟨i, hi, rfl, rfl⟩ := hI
    have hcase : i = a.length ∨ i < a.length := by omega
    intro K10 hn10 hr10 he10
    rcases hcase with hcc | hcc
    · skip
      have w2 : ¬ (i : Int) < (a.length : Int) := by omega
      have F1 := @w2
      refine eS fun K11 hn11 hr11 he11 => ?_
      refine eO fun K12 hk12 => ?_
      refine tZ F1 ?_
      refine hk12 _ ?_
      refine hn11 (some ([0, 1, 12, 13, 14], none)) _ ?_
      refine eS fun K13 hn13 hr13 he13 => ?_
      refine eCf ?_
      refine he13 0 _ ?_
      refine he10 0 _ ?_
      refine hx9 _ ?_
      refine hn6 (some ([], none)) _ ?_
      refine eS fun K14 hn14 hr14 he14 => ?_
      refine eO fun K15 hk15 => ?_
      refine tL F1 ?_
      refine hk15 _ ?_
      refine hn14 (some ([4], none)) _ ?_
      exact sf1 F1
    · skip
      skip
      have w2 : (i : Int) < (a.length : Int) := by omega
      have w3 : IntKind.i64.wrap ((i : Int) + 1) = ((i + 1 : Nat) : Int) := by rw [IntKind.wrap_i64]; omega
      have w4 := List.getElem?_eq_getElem hcc
      generalize a[i] = x at w4
      have F2 := And.intro @w2 (And.intro @w3 @w4)
      refine eS fun K16 hn16 hr16 he16 => ?_
      refine eO fun K17 hk17 => ?_
      refine tZ F2 ?_
      refine hk17 _ ?_
      refine hn16 (some ([0, 1, 12, 13, 14], none)) _ ?_
      refine eS fun K18 hn18 hr18 he18 => ?_
      refine eCt ?_
      refine hn18 (some ([0, 1, 12, 13], none)) _ ?_
      refine eS fun K19 hn19 hr19 he19 => ?_
      refine eB fun K20 hn20 hx20 hr20 he20 => ?_
      refine eS fun K21 hn21 hr21 he21 => ?_
      refine eO fun K22 hk22 => ?_
      refine tL F2 ?_
      refine hk22 _ ?_
      refine hn21 (some ([0, 1, 5, 12, 13], none)) _ ?_
      refine eS fun K23 hn23 hr23 he23 => ?_
      refine eD [] (n := 8) fun K24 hk24 => ?_
      refine sq0 ?_
      refine fC 3 F2 ?_
      refine fC 1 F2 ?_
      refine fC 3 F2 ?_
      refine fZ F2 ?_
      refine hk24 _ ?_
      refine sr0 ?_
      refine tL F2 ?_
      refine Or.inl ⟨_, eqsh_word_refl _, ?_⟩
      refine hn23 (some ([0, 1, 12, 13, 24], none)) _ ?_
      refine eCf ?_
      refine hn20 _ ?_
      refine hn19 (some ([0, 1, 12, 13], none)) _ ?_
      refine eO fun K26 hk26 => ?_
      refine tC 1 F2 ?_
      refine tL F2 ?_
      refine hk26 _ ?_
      refine hn10 (a.length - (i + 1)) (some ([0, 1, 12, 13], some ([], 0))) _ ?_ ?_
      all_goals try refine lp0 ?_
      · omega
      · exact ⟨i + 1, by omega, by omega, rfl⟩

/-! ### A machine behind some deeds -/
noncomputable def deedM (M : MachM) (d : DeedV) : MachM := if d.crash = true then crashM M d.choice else (doM M d.thread d.act d.choice).1
noncomputable def runD (M : MachM) (ds : List DeedV) : Nat → MachM
  | 0 => M
  | i + 1 => match ds[i]? with
    | some d => deedM (runD M ds i) d
    | none => runD M ds i
theorem runD_succ {M : MachM} {ds : List DeedV} {i : Nat} {d : DeedV} (h : ds[i]? = some d) : runD M ds (i + 1) = deedM (runD M ds i) d := by rw [runD, h]
theorem machOk_deed {M : MachM} {n : Nat} (h : MachOk M n) (d : DeedV) : MachOk (deedM M d) (n + 1) := by
  unfold deedM; split
  · exact machOk_crash h _
  · exact machOk_do h _ _ _
theorem machOk_run {M : MachM} {n : Nat} (h : MachOk M n) (ds : List DeedV) : ∀ i, MachOk (runD M ds i) (n + i)
  | 0 => h
  | i + 1 => by
    unfold runD
    cases e : ds[i]? with
    | none => exact machOk_up (machOk_run h ds i) (by omega)
    | some d => exact machOk_deed (machOk_run h ds i) d
noncomputable def madeM (k : Int) (ws : List WordV) (ds : List DeedV) : MachM × Bool :=
  if (cnewM k ws).2 = 0 ∧ fewD ws ds = true then (runD (cnewM k ws).1 ds ds.length, true) else ((cnewM k ws).1, false)
theorem few_len {ws : List WordV} {ds : List DeedV} (h : fewD ws ds = true) : ws.length ≤ 20 ∧ ds.length ≤ 80 := by
  unfold fewD at h
  rw [Bool.and_eq_true] at h
  exact of_decide_eq_true h.2
theorem machOk_made (k : Int) (ws : List WordV) (ds : List DeedV) : MachOk (madeM k ws ds).1 81 := by
  unfold madeM
  split
  · rename_i h
    have := few_len h.2
    exact machOk_up (machOk_run (machOk_new k ws) ds ds.length) (by omega)
  · exact machOk_up (machOk_new k ws) (by omega)
abbrev boxC (M : MachM) : Ob := .box 44 (cMach M)
def MdInv (g2 : Nat) (ds : List DeedV) (M : MachM) (m : Nat) (S : St) : Prop :=
  ∃ i : Nat, i ≤ ds.length ∧ m = ds.length - i ∧ S = ⟨[(6, .ptr 0 0 0), (8, .ptr 1 0 0), (30, .sl 11 g2 (ds.map eDeed)), (31, sI ds.length), (32, sI i)], [(0, .box 44 [.sl 1 0 [], .sl 1 0 [], .sl 3 0 [], .sl 2 0 [], .mp 3 fun _ => none, .sl 1 0 [], sI 0]), (1, boxC (runD M ds i))], 2⟩
set_option maxHeartbeats 4000000 in
theorem ok_l6made (k : Int) (g : Nat) (ws : List WordV) (g2 : Nat) (ds : List DeedV) (hd : ds.length ≤ 9223372036854775807) : Ok 9 [sI k, .sl 3 g (ws.map eWord), .sl 11 g2 (ds.map eDeed)] (.tup [eMach (madeM k ws ds).1, sB (madeM k ws ds).2]) := by
  refine ok_of_tr Try.func9 tr_l6made rfl ?_
  have c0 := ok_cNew k g ws
  have c1 := ok_l6Few g ws g2 ds hd
  have hM := machOk_new k ws
  unfold madeM
  generalize cnewM k ws = R at c0 hM ⊢
  obtain ⟨M, e⟩ := R
  simp only at c0 hM ⊢
  by_cases h1 : e = 0
  case neg =>
    rw [if_neg (fun h => h1 h.1)]
    have d : (e != 0) = true := by simpa using h1
    unfold evFn sc_l6made rv_l6made
    have F1 := @d
    refine eS fun K1 hn1 hr1 he1 => ?_
    refine eO fun K2 hk2 => ?_
    refine tL F1 ?_
    refine hk2 _ ?_
    refine hn1 (some ([0, 1, 2, 6], none)) _ ?_
    refine eS fun K3 hn3 hr3 he3 => ?_
    refine eO fun K4 hk4 => ?_
    refine tS 2 F1 ?_
    refine tS 1 F1 ?_
    refine Or.inl (Or.inl ⟨_, c0, ?_⟩)
    refine tC 5 F1 ?_
    refine tL F1 ?_
    refine hk4 _ ?_
    refine hn3 (some ([1, 2, 6, 8, 9], none)) _ ?_
    refine eS fun K5 hn5 hr5 he5 => ?_
    refine eS fun K6 hn6 hr6 he6 => ?_
    refine eO fun K7 hk7 => ?_
    refine tC 2 F1 ?_
    refine tS 3 F1 ?_
    refine tS 1 F1 ?_
    skip
    refine tL F1 ?_
    refine hk7 _ ?_
    refine hn6 (some ([2, 6, 8, 28], none)) _ ?_
    refine eCt ?_
    refine eS fun K8 hn8 hr8 he8 => ?_
    refine eO fun K9 hk9 => ?_
    refine tC 1 F1 ?_
    refine tC 1 F1 ?_
    refine tL F1 ?_
    refine hk9 _ ?_
    refine hn8 (some ([6, 7], none)) _ ?_
    refine hr5 _ ?_
    exact sf1 F1
  subst h1
  by_cases h2 : fewD ws ds = true
  case neg =>
    rw [if_neg (fun h => h2 h.2)]
    have h2 : fewD ws ds = false := by simpa using h2
    rw [h2] at c1
    unfold evFn sc_l6made rv_l6made
    refine eS fun K1 hn1 hr1 he1 => ?_
    refine eO fun K2 hk2 => ?_
    refine tL0 ?_
    refine hk2 _ ?_
    refine hn1 (some ([0, 1, 2, 6], none)) _ ?_
    refine eS fun K3 hn3 hr3 he3 => ?_
    refine eO fun K4 hk4 => ?_
    refine tS0 2 ?_
    refine tS0 1 ?_
    refine Or.inl (Or.inl ⟨_, c0, ?_⟩)
    refine tC0 5 ?_
    refine tL0 ?_
    refine hk4 _ ?_
    refine hn3 (some ([1, 2, 6, 8, 9], none)) _ ?_
    refine eS fun K5 hn5 hr5 he5 => ?_
    refine eS fun K6 hn6 hr6 he6 => ?_
    refine eO fun K7 hk7 => ?_
    refine tC0 2 ?_
    refine tS0 3 ?_
    refine tS0 1 ?_
    refine Or.inl (Or.inl ⟨_, c1, ?_⟩)
    refine tL0 ?_
    refine hk7 _ ?_
    refine hn6 (some ([2, 6, 8, 28], none)) _ ?_
    refine eCt ?_
    refine eS fun K8 hn8 hr8 he8 => ?_
    refine eO fun K9 hk9 => ?_
    refine tC0 1 ?_
    refine tC0 1 ?_
    refine tL0 ?_
    refine hk9 _ ?_
    refine hn8 (some ([6, 7], none)) _ ?_
    refine hr5 _ ?_
    exact sf0
  rw [if_pos ⟨rfl, h2⟩]
  rw [h2] at c1
  have hln := few_len h2
  unfold evFn sc_l6made rv_l6made
  refine eS fun K1 hn1 hr1 he1 => ?_
  refine eO fun K2 hk2 => ?_
  refine tL0 ?_
  refine hk2 _ ?_
  refine hn1 (some ([0, 1, 2, 6], none)) _ ?_
  refine eS fun K3 hn3 hr3 he3 => ?_
  refine eO fun K4 hk4 => ?_
  refine tS0 2 ?_
  refine tS0 1 ?_
  refine Or.inl (Or.inl ⟨_, c0, ?_⟩)
  refine tC0 5 ?_
  refine tL0 ?_
  refine hk4 _ ?_
  refine hn3 (some ([1, 2, 6, 8, 9], none)) _ ?_
  refine eS fun K5 hn5 hr5 he5 => ?_
  refine eS fun K6 hn6 hr6 he6 => ?_
  refine eO fun K7 hk7 => ?_
  refine tC0 2 ?_
  refine tS0 3 ?_
  refine tS0 1 ?_
  refine Or.inl (Or.inl ⟨_, c1, ?_⟩)
  refine tL0 ?_
  refine hk7 _ ?_
  refine hn6 (some ([2, 6, 8, 28], none)) _ ?_
  refine eCf ?_
  refine hn5 (some ([2, 6, 8], none)) _ ?_
  refine eS fun K8 hn8 hr8 he8 => ?_
  refine eS fun K9 hn9 hr9 he9 => ?_
  refine eO fun K10 hk10 => ?_
  refine tL0 ?_
  refine hk10 _ ?_
  refine hn9 (some ([6, 8, 30, 31, 32], none)) _ ?_
  refine eB fun K11 hn11 hx11 hr11 he11 => ?_
  refine eW (MdInv g2 ds M) (ds.length) (some ([6, 8, 30, 31, 32], some ([0, 1], 2))) ([]) ?_ ?_
  · try refine lp0 ?_
    exact ⟨0, by omega, by omega, rfl⟩
  · intro k S1 hI
    obtain ⟨i, hi, rfl, rfl⟩ := hI
    have hcase : i = ds.length ∨ (∃ x, ds[i]? = some x ∧ x.crash = true) ∨ (∃ x, ds[i]? = some x ∧ x.crash = false) := by
      rcases Nat.lt_or_ge i ds.length with h | h
      · have hx := List.getElem?_eq_getElem h
        cases hc : (ds[i]).crash
        · exact .inr (.inr ⟨_, hx, hc⟩)
        · exact .inr (.inl ⟨_, hx, hc⟩)
      · exact .inl (by omega)
    intro K12 hn12 hr12 he12
    rcases hcase with hcc | ⟨x, hx0, hcr⟩ | ⟨x, hx0, hcr⟩
    · skip
      subst hcc
      have w2 : ¬ (ds.length : Int) < (ds.length : Int) := by omega
      have F1 := @w2
      refine eS fun K13 hn13 hr13 he13 => ?_
      refine eO fun K14 hk14 => ?_
      refine tZ F1 ?_
      refine hk14 _ ?_
      refine hn13 (some ([6, 8, 30, 31, 32, 33], none)) _ ?_
      refine eS fun K15 hn15 hr15 he15 => ?_
      refine eCf ?_
      refine he15 0 _ ?_
      refine he12 0 _ ?_
      refine hx11 _ ?_
      refine hn8 (some ([6, 8], none)) _ ?_
      refine eS fun K16 hn16 hr16 he16 => ?_
      refine eO fun K17 hk17 => ?_
      refine tC 1 F1 ?_
      refine tC 1 F1 ?_
      refine tL F1 ?_
      refine hk17 _ ?_
      refine hn16 (some ([6, 7], none)) _ ?_
      exact sf1 F1
    · skip
      skip
      have hlt := (List.getElem?_eq_some_iff.1 hx0).1
      have w2 : (i : Int) < (ds.length : Int) := by omega
      have w3 : IntKind.i64.wrap ((i : Int) + 1) = ((i + 1 : Nat) : Int) := by rw [IntKind.wrap_i64]; omega
      have k1 := ok_cCrash (runD M ds i) x.choice (machOk_run hM ds i) (by omega)
      have hs := runD_succ (M := M) hx0
      unfold deedM at hs
      rw [if_pos hcr] at hs
      generalize crashM (runD M ds i) x.choice = Q at k1 hs
      generalize runD M ds i = B at k1
      have F2 := And.intro @w2 (And.intro @w3 (And.intro @hx0 @hcr))
      refine eS fun K18 hn18 hr18 he18 => ?_
      refine eO fun K19 hk19 => ?_
      refine tZ F2 ?_
      refine hk19 _ ?_
      refine hn18 (some ([6, 8, 30, 31, 32, 33], none)) _ ?_
      refine eS fun K20 hn20 hr20 he20 => ?_
      refine eCt ?_
      refine hn20 (some ([6, 8, 30, 31, 32], none)) _ ?_
      refine eS fun K21 hn21 hr21 he21 => ?_
      refine eB fun K22 hn22 hx22 hr22 he22 => ?_
      refine eS fun K23 hn23 hr23 he23 => ?_
      refine eO fun K24 hk24 => ?_
      refine tC 1 F2 ?_
      refine tC 1 F2 ?_
      refine tZ F2 ?_
      refine hk24 _ ?_
      refine hn23 (some ([6, 8, 11, 30, 31, 32], none)) _ ?_
      refine eS fun K25 hn25 hr25 he25 => ?_
      refine eO fun K26 hk26 => ?_
      refine tZ F2 ?_
      refine hk26 _ ?_
      refine hn25 (some ([6, 8, 11, 30, 31, 32, 37], none)) _ ?_
      refine eCt ?_
      refine eO fun K27 hk27 => ?_
      refine tC 1 F2 ?_
      refine tC 2 F2 ?_
      refine tS 1 F2 ?_
      refine Or.inl (Or.inl ⟨_, k1, ?_⟩)
      refine tZ F2 ?_
      refine hk27 _ ?_
      refine hn22 _ ?_
      refine hn21 (some ([6, 8, 30, 31, 32], none)) _ ?_
      refine eO fun K28 hk28 => ?_
      refine tC 1 F2 ?_
      refine tL F2 ?_
      refine hk28 _ ?_
      refine hn12 (ds.length - (i + 1)) (some ([6, 8, 30, 31, 32], some ([0, 1], 2))) _ ?_ ?_
      all_goals try refine lp0 ?_
      · omega
      · exact ⟨i + 1, by omega, by omega, by rw [hs]⟩
    · skip
      skip
      have hlt := (List.getElem?_eq_some_iff.1 hx0).1
      have w2 : (i : Int) < (ds.length : Int) := by omega
      have w3 : IntKind.i64.wrap ((i : Int) + 1) = ((i + 1 : Nat) : Int) := by rw [IntKind.wrap_i64]; omega
      have k1 := ok_cDo (runD M ds i) x.thread x.act x.choice (machOk_run hM ds i) (by omega)
      have hs := runD_succ (M := M) hx0
      unfold deedM at hs
      rw [if_neg (by rw [hcr]; simp)] at hs
      have hsame : (doM (runD M ds i) x.thread x.act x.choice).2.2 ≠ 0 → (doM (runD M ds i) x.thread x.act x.choice).1 = runD M ds i := by
        unfold doM; split
        · intro h; exact absurd rfl h
        · intro _; rfl
      generalize doM (runD M ds i) x.thread x.act x.choice = Q at k1 hs hsame
      generalize runD M ds i = B at k1 hsame
      have F3 := And.intro @w2 (And.intro @w3 (And.intro @hx0 @hcr))
      refine eS fun K29 hn29 hr29 he29 => ?_
      refine eO fun K30 hk30 => ?_
      refine tZ F3 ?_
      refine hk30 _ ?_
      refine hn29 (some ([6, 8, 30, 31, 32, 33], none)) _ ?_
      refine eS fun K31 hn31 hr31 he31 => ?_
      refine eCt ?_
      refine hn31 (some ([6, 8, 30, 31, 32], none)) _ ?_
      refine eS fun K32 hn32 hr32 he32 => ?_
      refine eB fun K33 hn33 hx33 hr33 he33 => ?_
      refine eS fun K34 hn34 hr34 he34 => ?_
      refine eO fun K35 hk35 => ?_
      refine tC 1 F3 ?_
      refine tC 1 F3 ?_
      refine tZ F3 ?_
      refine hk35 _ ?_
      refine hn34 (some ([6, 8, 11, 30, 31, 32], none)) _ ?_
      refine eS fun K36 hn36 hr36 he36 => ?_
      refine eO fun K37 hk37 => ?_
      refine tZ F3 ?_
      refine hk37 _ ?_
      refine hn36 (some ([6, 8, 11, 30, 31, 32, 37], none)) _ ?_
      refine eCf ?_
      refine eS fun K38 hn38 hr38 he38 => ?_
      refine eO fun K39 hk39 => ?_
      refine tC 1 F3 ?_
      refine tC 2 F3 ?_
      refine tC 2 F3 ?_
      refine tC 2 F3 ?_
      refine tS 1 F3 ?_
      refine Or.inl (Or.inl ⟨_, k1, ?_⟩)
      refine tC 7 F3 ?_
      refine tC 1 F3 ?_
      refine tL F3 ?_
      refine hk39 _ ?_
      refine hn38 (some ([6, 8, 12, 14, 30, 31, 32], none)) _ ?_
      refine eS fun K40 hn40 hr40 he40 => ?_
      refine eO fun K41 hk41 => ?_
      refine tZ F3 ?_
      refine hk41 _ ?_
      refine hn40 (some ([6, 8, 12, 30, 31, 32, 55], none)) _ ?_
      refine eC rfl (fun hc3 => ?_) (fun hc3 => ?_)
      · try replace hc3 := hcS hc3
        refine eO fun K42 hk42 => ?_
        refine tC 1 F3 ?_
        refine tZ F3 ?_
        refine hk42 _ ?_
        refine hn33 _ ?_
        refine hn32 (some ([6, 8, 30, 31, 32], none)) _ ?_
        refine eO fun K43 hk43 => ?_
        refine tC 1 F3 ?_
        refine tL F3 ?_
        refine hk43 _ ?_
        refine hn12 (ds.length - (i + 1)) (some ([6, 8, 30, 31, 32], some ([0, 1], 2))) _ ?_ ?_
        all_goals try refine lp0 ?_
        · omega
        · refine ⟨i + 1, by omega, by omega, ?_⟩
          first | (rw [hs]; done) | (rw [hs, hsame hc3]; done) | (rw [hs, hsame hc3]; rfl)
      · try replace hc3 := hcS hc3
        refine hn33 _ ?_
        refine hn32 (some ([6, 8, 30, 31, 32], none)) _ ?_
        refine eO fun K44 hk44 => ?_
        refine tC 1 F3 ?_
        refine tL F3 ?_
        refine hk44 _ ?_
        refine hn12 (ds.length - (i + 1)) (some ([6, 8, 30, 31, 32], some ([0, 1], 2))) _ ?_ ?_
        all_goals try refine lp0 ?_
        · omega
        · refine ⟨i + 1, by omega, by omega, ?_⟩
          first | (rw [hs]; done) | (rw [hs, hsame hc3]; done) | (rw [hs, hsame hc3]; rfl)
end Go.Proofs.Ytkoibcblmgmdmaa
