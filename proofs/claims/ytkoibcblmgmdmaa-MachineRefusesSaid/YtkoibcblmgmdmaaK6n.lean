/-
  MachineRefuses, by shadows.
-/
import Derived.Test.YtkoibcblmgmdmaaK6e
import Derived.Test.YtkoibcblmgmdmaaScMachineRefuses
import Derived.Test.YtkoibcblmgmdmaaEqG
import Derived.Test.YtkoibcblmgmdmaaMC
namespace Go.Proofs.Ytkoibcblmgmdmaa
set_option linter.unusedSimpArgs false
set_option linter.unusedVariables false
open Go.RowKit Go.Maps

theorem last_load' (M : MemM) (t a : Int) (q : Bool) (c : Int) (p : Int) : lastWM (loadM M t a q c).1 p = lastWM M p := by
  unfold loadM; split <;> rfl
theorem words_eq {A B : MachM} (h : A.mem.places.length = B.mem.places.length) (h2 : ∀ p, lastWM A.mem p = lastWM B.mem p) : wordsM A = wordsM B := by
  unfold wordsM
  rw [h]
  exact List.map_congr_left fun p _ => h2 p
theorem words_still {M : MachM} {n : Nat} (hM : MachOk M n) (t : Int) (a : ActM) (c : Int) (h : changesB a.op = false) : wordsM (doM M t a c).1 = wordsM M := by
  refine words_eq (size_do hM t a c).2 fun p => ?_
  unfold doM
  split
  · show lastWM (actM M t a c).1.mem p = _
    unfold actM
    rw [if_neg (by rw [h]; simp)]
    split
    · rfl
    · split
      · rfl
      · split
        · rfl
        · unfold readM
          split
          · exact lastW_look _ _ _ _
          · exact last_load' _ _ _ _ _ _
  · rfl
theorem steps_do {M : MachM} {n : Nat} (hM : MachOk M n) {t : Int} {a : ActM} (c : Int) (h : checkM M t a = 0) : stepsM (doM M t a c).1 t = stepsM M t + 1 := by
  obtain ⟨ht, _, _⟩ := check_zero h
  have hst := (machOk_act hM c h).2.1
  have hth := hM.threads
  unfold ThrB at ht
  unfold doM
  rw [if_pos h]
  show stepsM (tickM (actM M t a c).1 t) t = _
  unfold stepsM tickM
  simp only [List.length_set, hst]
  rw [if_neg (by omega), if_neg (by omega)]
  obtain ⟨m, hm⟩ := Int.eq_ofNat_of_zero_le (show 0 ≤ t - 1 by omega)
  rw [hm, Int.toNat_natCast, List.getElem?_set_self (by omega)]
  rfl
theorem steps_bound {M : MachM} {n : Nat} (hM : MachOk M n) (t : Int) : 0 ≤ stepsM M t ∧ stepsM M t ≤ n := by
  unfold stepsM
  split
  · omega
  · cases h : M.steps[(t - 1).toNat]? with
    | none => simp
    | some s => exact hM.steps s (List.mem_of_getElem? h)
theorem few_app {ws : List WordV} {ds : List DeedV} {d : DeedV} (h : fewD ws (ds ++ [d]) = true) : fewD ws ds = true ∧ ws.length ≤ 20 ∧ ds.length ≤ 79 := by
  unfold fewD at h ⊢
  simp only [List.all_append, Bool.and_eq_true, decide_eq_true_eq, List.length_append, List.length_cons, List.length_nil] at h ⊢
  exact ⟨⟨h.1.1, by omega, by omega⟩, by omega, by omega⟩
set_option maxHeartbeats 16000000 in
theorem ok_MachineRefuses (g : Nat) (ws : List WordV) (g2 : Nat) (ds : List DeedV) (d : DeedV) (hd : (ds.length + 1) * 72 ≤ 140737488355328) : Ok 3 [.sl 3 g (ws.map eWord), .sl 11 g2 (ds.map eDeed), .agg (eDeed d)] (sB true) := by
  refine ok_of_tr Try.func3 tr_MachineRefuses rfl ?_
  have ka := ok_l6awake
  have q1 : ds.length ≤ 140737488355328 := by omega
  have q2 : ds.length * 72 ≤ 140737488355328 := by omega
  have q3 : ds.length + 1 ≤ 140737488355328 := by omega
  have e1 : ds.map eDeed ++ [eDeed d] = (ds ++ [d]).map eDeed := by simp
  have k0 := ok_l6Few g ws 0 (ds ++ [d]) (by simp; omega)
  by_cases hf : fewD ws (ds ++ [d]) = true
  case neg =>
    have hf : fewD ws (ds ++ [d]) = false := by simpa using hf
    rw [hf] at k0
    unfold evFn sc_MachineRefuses rv_MachineRefuses
    have F1 := And.intro @q1 (And.intro @q2 (And.intro @q3 (And.intro @hd @e1)))
    refine eS fun K1 hn1 hr1 he1 => ?_
    refine eO fun K2 hk2 => ?_
    refine tL F1 ?_
    refine hk2 _ ?_
    refine hn1 (some ([0, 1, 5], none)) _ ?_
    refine eS fun K3 hn3 hr3 he3 => ?_
    refine eS fun K4 hn4 hr4 he4 => ?_
    refine eD [] (n := 6) fun K5 hk5 => ?_
    refine sq0 ?_
    refine fC 2 F1 ?_
    refine fS 2 F1 ?_
    refine Or.inr ?_
    refine sd ?_
    refine fC 1 F1 ?_
    refine fZ F1 ?_
    refine hk5 _ ?_
    refine sr0 ?_
    refine tC 1 F1 ?_
    refine tS 1 F1 ?_
    refine Or.inl (Or.inl ⟨_, k0, ?_⟩)
    refine tC 5 F1 ?_
    refine tL F1 ?_
    refine hn4 (some ([0, 1, 5, 28], none)) _ ?_
    refine eCt ?_
    refine eS fun K7 hn7 hr7 he7 => ?_
    refine eO fun K8 hk8 => ?_
    refine tS 1 F1 ?_
    refine Or.inl (Or.inl ⟨_, ka, ?_⟩)
    refine tL F1 ?_
    refine hk8 _ ?_
    refine hn7 (some ([6], none)) _ ?_
    refine hr3 _ ?_
    exact sf1 F1
  rw [hf] at k0
  obtain ⟨f1, f2, f3⟩ := few_app hf
  by_cases hz : ws.length = 0
  · have z1 : ((ws.length : Int) == 0) = true := by rw [hz]; rfl
    unfold evFn sc_MachineRefuses rv_MachineRefuses
    have F1 := And.intro @q1 (And.intro @q2 (And.intro @q3 (And.intro @hd (And.intro @e1 @z1))))
    refine eS fun K1 hn1 hr1 he1 => ?_
    refine eO fun K2 hk2 => ?_
    refine tL F1 ?_
    refine hk2 _ ?_
    refine hn1 (some ([0, 1, 5], none)) _ ?_
    refine eS fun K3 hn3 hr3 he3 => ?_
    refine eS fun K4 hn4 hr4 he4 => ?_
    refine eD [] (n := 6) fun K5 hk5 => ?_
    refine sq0 ?_
    refine fC 2 F1 ?_
    refine fS 2 F1 ?_
    refine Or.inr ?_
    refine sd ?_
    refine fC 1 F1 ?_
    refine fZ F1 ?_
    refine hk5 _ ?_
    refine sr0 ?_
    refine tC 1 F1 ?_
    refine tS 1 F1 ?_
    refine Or.inl (Or.inl ⟨_, k0, ?_⟩)
    refine tC 5 F1 ?_
    refine tL F1 ?_
    refine hn4 (some ([0, 1, 5, 28], none)) _ ?_
    refine eCt ?_
    refine eS fun K7 hn7 hr7 he7 => ?_
    refine eO fun K8 hk8 => ?_
    refine tS 1 F1 ?_
    refine Or.inl (Or.inl ⟨_, ka, ?_⟩)
    refine tL F1 ?_
    refine hk8 _ ?_
    refine hn7 (some ([6], none)) _ ?_
    refine hr3 _ ?_
    exact sf1 F1
  have z1 : ((ws.length : Int) == 0) = false := by simp only [beq_eq_false_iff_ne, ne_eq]; omega
  have k2 := ok_l6made 3 g ws g2 ds (by omega)
  have hmn : (mnewM 3 ws).2 = 0 := by
    unfold mnewM
    rw [if_neg (by omega), if_neg (by omega), if_neg (by omega)]
  have hcn : (cnewM 3 ws).2 = 0 := by unfold cnewM; rw [if_pos hmn]
  have hmd : (madeM 3 ws ds).2 = true := by unfold madeM; rw [if_pos ⟨hcn, f1⟩]
  have hM := machOk_made 3 ws ds
  rw [hmd] at k2
  generalize (madeM 3 ws ds).1 = M at k2 hM
  have hth := hM.threads
  have hvl := hM.mem.vl
  have k4 := ok_cWords M hM.mem (by decide)
  have k5 := ok_cLeast M hM.lines (by decide)
  have k6 := ok_cSteps M d.thread (by omega)
  have k7 := ok_cDo M d.thread d.act d.choice hM (by decide)
  have hsb := steps_bound hM d.thread
  have hwl := words_len M
  have hpl := hM.mem.pl
  have hll : (leftM M.lines fun _ _ => 0).length ≤ 100000 := by rw [left_len, hM.size]; omega
  have aw := ok_l6alike 0 0 (wordsM M) (by omega)
  have al := ok_l6alike 0 0 (leftM M.lines fun _ _ => 0) (by omega)
  by_cases he : checkM M d.thread d.act = 0
  · have hw : changesB d.act.op = false → wordsM (doM M d.thread d.act d.choice).1 = wordsM M := fun h => words_still hM _ _ _ h
    have hs := steps_do hM d.choice he
    have hM' := machOk_do hM d.thread d.act d.choice
    have hsz := size_do hM d.thread d.act d.choice
    have hz2 : (doM M d.thread d.act d.choice).2.2 = 0 := by unfold doM; rw [if_pos he]
    have k13 := ok_cSteps (doM M d.thread d.act d.choice).1 d.thread (by have := hM'.threads; omega)
    have k15 := ok_cWords (doM M d.thread d.act d.choice).1 hM'.mem (by decide)
    have k14 := ok_cChanges d.act
    rw [hs] at k13
    rw [hz2] at k7
    generalize (doM M d.thread d.act d.choice).2.1 = got at k7
    generalize (doM M d.thread d.act d.choice).1 = X at k7 k13 k15 hw
    have w1 : IntKind.i64.wrap (stepsM M d.thread + 1) = stepsM M d.thread + 1 := by rw [IntKind.wrap_i64]; omega
    generalize stepsM M d.thread = s at k6 k13 w1
    generalize leftM M.lines (fun _ _ => 0) = lv at k5 al
    cases hc : changesB d.act.op
    · rw [hc] at k14
      rw [hw hc] at k15
      generalize wordsM M = wv at k4 k15 aw
      unfold evFn sc_MachineRefuses rv_MachineRefuses
      have F1 := And.intro @q1 (And.intro @q2 (And.intro @q3 (And.intro @hd (And.intro @e1 (And.intro @z1 @w1)))))
      refine eS fun K1 hn1 hr1 he1 => ?_
      refine eO fun K2 hk2 => ?_
      refine tL F1 ?_
      refine hk2 _ ?_
      refine hn1 (some ([0, 1, 5], none)) _ ?_
      refine eS fun K3 hn3 hr3 he3 => ?_
      refine eS fun K4 hn4 hr4 he4 => ?_
      refine eD [] (n := 6) fun K5 hk5 => ?_
      refine sq0 ?_
      refine fC 2 F1 ?_
      refine fS 2 F1 ?_
      refine Or.inr ?_
      refine sd ?_
      refine fC 1 F1 ?_
      refine fZ F1 ?_
      refine hk5 _ ?_
      refine sr0 ?_
      refine tC 1 F1 ?_
      refine tS 1 F1 ?_
      refine Or.inl (Or.inl ⟨_, k0, ?_⟩)
      refine tC 5 F1 ?_
      refine tL F1 ?_
      refine hn4 (some ([0, 1, 5, 28], none)) _ ?_
      refine eCf ?_
      refine hn3 (some ([0, 1, 5], none)) _ ?_
      refine eS fun K7 hn7 hr7 he7 => ?_
      refine eO fun K8 hk8 => ?_
      refine tS 2 F1 ?_
      refine tS 1 F1 ?_
      refine Or.inl (Or.inl ⟨_, k2, ?_⟩)
      refine tC 5 F1 ?_
      refine tL F1 ?_
      refine hk8 _ ?_
      refine hn7 (some ([5, 7, 8], none)) _ ?_
      refine eS fun K9 hn9 hr9 he9 => ?_
      refine eS fun K10 hn10 hr10 he10 => ?_
      refine eO fun K11 hk11 => ?_
      refine tL F1 ?_
      refine hk11 _ ?_
      refine hn10 (some ([5, 7, 37], none)) _ ?_
      refine eCf ?_
      refine hn9 (some ([5, 7], none)) _ ?_
      refine eS fun K12 hn12 hr12 he12 => ?_
      refine eD [] (n := 7) fun K13 hk13 => ?_
      refine sq0 ?_
      refine fC 1 F1 ?_
      refine fS 1 F1 ?_
      refine ⟨_, k4, ?_⟩
      refine fC 1 F1 ?_
      refine fS 1 F1 ?_
      refine ⟨_, k5, ?_⟩
      refine fC 1 F1 ?_
      refine fZ F1 ?_
      refine hk13 _ ?_
      refine sr0 ?_
      refine tS 1 F1 ?_
      refine Or.inl (Or.inl ⟨_, k6, ?_⟩)
      refine tL F1 ?_
      refine hn12 (some ([5, 7, 9, 10, 11], none)) _ ?_
      refine eS fun K15 hn15 hr15 he15 => ?_
      refine eO fun K16 hk16 => ?_
      refine tC 1 F1 ?_
      refine tC 2 F1 ?_
      refine tC 2 F1 ?_
      refine tC 2 F1 ?_
      refine tS 1 F1 ?_
      refine Or.inl (Or.inl ⟨_, k7, ?_⟩)
      refine tC 7 F1 ?_
      refine tC 1 F1 ?_
      refine tL F1 ?_
      refine hk16 _ ?_
      refine hn15 (some ([5, 7, 9, 10, 11, 12, 13, 14], none)) _ ?_
      refine eS fun K17 hn17 hr17 he17 => ?_
      refine eS fun K18 hn18 hr18 he18 => ?_
      refine eO fun K19 hk19 => ?_
      refine tC 2 F1 ?_
      refine tC 2 F1 ?_
      refine tS 1 F1 ?_
      refine tS 1 F1 ?_
      skip
      refine tC 2 F1 ?_
      refine tS 1 F1 ?_
      skip
      refine tS 1 F1 ?_
      refine tS 1 F1 ?_
      skip
      refine tC 4 F1 ?_
      refine tS 1 F1 ?_
      skip
      refine tS 1 F1 ?_
      refine tS 1 F1 ?_
      skip
      refine tC 4 F1 ?_
      refine tC 2 F1 ?_
      refine tS 1 F1 ?_
      skip
      refine tC 2 F1 ?_
      refine tL F1 ?_
      refine hk19 _ ?_
      refine hn18 (some ([5, 7, 9, 10, 11, 12, 14, 87], none)) _ ?_
      refine eCf ?_
      refine hn17 (some ([5, 7, 9, 10, 11, 12, 14], none)) _ ?_
      refine eS fun K20 hn20 hr20 he20 => ?_
      refine eS fun K21 hn21 hr21 he21 => ?_
      refine eO fun K22 hk22 => ?_
      refine tC 2 F1 ?_
      refine tC 2 F1 ?_
      refine tC 2 F1 ?_
      refine tS 1 F1 ?_
      refine Or.inl (Or.inl ⟨_, k13, ?_⟩)
      refine tC 2 F1 ?_
      refine tC 1 F1 ?_
      refine tC 4 F1 ?_
      refine tC 3 F1 ?_
      refine tS 1 F1 ?_
      refine Or.inl (Or.inl ⟨_, k14, ?_⟩)
      refine tC 4 F1 ?_
      refine tS 1 F1 ?_
      refine Or.inl (Or.inl ⟨_, k15, ?_⟩)
      refine tS 1 F1 ?_
      refine tS 1 F1 ?_
      refine Or.inl (Or.inl ⟨_, aw, ?_⟩)
      refine tL F1 ?_
      refine hk22 _ ?_
      refine hn21 (some ([5, 7, 9, 10, 11, 115], none)) _ ?_
      refine eCf ?_
      refine hn20 (some ([5, 7, 9, 10, 11], none)) _ ?_
      refine eS fun K23 hn23 hr23 he23 => ?_
      refine eO fun K24 hk24 => ?_
      refine tS 1 F1 ?_
      refine Or.inl (Or.inl ⟨_, ka, ?_⟩)
      refine tC 2 F1 ?_
      refine tS 1 F1 ?_
      refine Or.inl (Or.inl ⟨_, k4, ?_⟩)
      refine tS 1 F1 ?_
      refine tS 1 F1 ?_
      refine Or.inl (Or.inl ⟨_, aw, ?_⟩)
      refine tC 3 F1 ?_
      refine tS 1 F1 ?_
      refine Or.inl (Or.inl ⟨_, k5, ?_⟩)
      refine tS 1 F1 ?_
      refine tS 1 F1 ?_
      refine Or.inl (Or.inl ⟨_, al, ?_⟩)
      refine tC 3 F1 ?_
      refine tC 2 F1 ?_
      refine tS 1 F1 ?_
      refine Or.inl (Or.inl ⟨_, k6, ?_⟩)
      refine tC 2 F1 ?_
      refine tL F1 ?_
      refine hk24 _ ?_
      refine hn23 (some ([6], none)) _ ?_
      exact sf1 F1
    · rw [hc] at k14
      generalize wordsM X = xv at k15
      generalize wordsM M = wv at k4 aw
      unfold evFn sc_MachineRefuses rv_MachineRefuses
      have F1 := And.intro @q1 (And.intro @q2 (And.intro @q3 (And.intro @hd (And.intro @e1 (And.intro @z1 @w1)))))
      refine eS fun K1 hn1 hr1 he1 => ?_
      refine eO fun K2 hk2 => ?_
      refine tL F1 ?_
      refine hk2 _ ?_
      refine hn1 (some ([0, 1, 5], none)) _ ?_
      refine eS fun K3 hn3 hr3 he3 => ?_
      refine eS fun K4 hn4 hr4 he4 => ?_
      refine eD [] (n := 6) fun K5 hk5 => ?_
      refine sq0 ?_
      refine fC 2 F1 ?_
      refine fS 2 F1 ?_
      refine Or.inr ?_
      refine sd ?_
      refine fC 1 F1 ?_
      refine fZ F1 ?_
      refine hk5 _ ?_
      refine sr0 ?_
      refine tC 1 F1 ?_
      refine tS 1 F1 ?_
      refine Or.inl (Or.inl ⟨_, k0, ?_⟩)
      refine tC 5 F1 ?_
      refine tL F1 ?_
      refine hn4 (some ([0, 1, 5, 28], none)) _ ?_
      refine eCf ?_
      refine hn3 (some ([0, 1, 5], none)) _ ?_
      refine eS fun K7 hn7 hr7 he7 => ?_
      refine eO fun K8 hk8 => ?_
      refine tS 2 F1 ?_
      refine tS 1 F1 ?_
      refine Or.inl (Or.inl ⟨_, k2, ?_⟩)
      refine tC 5 F1 ?_
      refine tL F1 ?_
      refine hk8 _ ?_
      refine hn7 (some ([5, 7, 8], none)) _ ?_
      refine eS fun K9 hn9 hr9 he9 => ?_
      refine eS fun K10 hn10 hr10 he10 => ?_
      refine eO fun K11 hk11 => ?_
      refine tL F1 ?_
      refine hk11 _ ?_
      refine hn10 (some ([5, 7, 37], none)) _ ?_
      refine eCf ?_
      refine hn9 (some ([5, 7], none)) _ ?_
      refine eS fun K12 hn12 hr12 he12 => ?_
      refine eD [] (n := 7) fun K13 hk13 => ?_
      refine sq0 ?_
      refine fC 1 F1 ?_
      refine fS 1 F1 ?_
      refine ⟨_, k4, ?_⟩
      refine fC 1 F1 ?_
      refine fS 1 F1 ?_
      refine ⟨_, k5, ?_⟩
      refine fC 1 F1 ?_
      refine fZ F1 ?_
      refine hk13 _ ?_
      refine sr0 ?_
      refine tS 1 F1 ?_
      refine Or.inl (Or.inl ⟨_, k6, ?_⟩)
      refine tL F1 ?_
      refine hn12 (some ([5, 7, 9, 10, 11], none)) _ ?_
      refine eS fun K15 hn15 hr15 he15 => ?_
      refine eO fun K16 hk16 => ?_
      refine tC 1 F1 ?_
      refine tC 2 F1 ?_
      refine tC 2 F1 ?_
      refine tC 2 F1 ?_
      refine tS 1 F1 ?_
      refine Or.inl (Or.inl ⟨_, k7, ?_⟩)
      refine tC 7 F1 ?_
      refine tC 1 F1 ?_
      refine tL F1 ?_
      refine hk16 _ ?_
      refine hn15 (some ([5, 7, 9, 10, 11, 12, 13, 14], none)) _ ?_
      refine eS fun K17 hn17 hr17 he17 => ?_
      refine eS fun K18 hn18 hr18 he18 => ?_
      refine eO fun K19 hk19 => ?_
      refine tC 2 F1 ?_
      refine tC 2 F1 ?_
      refine tS 1 F1 ?_
      refine tS 1 F1 ?_
      skip
      refine tC 2 F1 ?_
      refine tS 1 F1 ?_
      skip
      refine tS 1 F1 ?_
      refine tS 1 F1 ?_
      skip
      refine tC 4 F1 ?_
      refine tS 1 F1 ?_
      skip
      refine tS 1 F1 ?_
      refine tS 1 F1 ?_
      skip
      refine tC 4 F1 ?_
      refine tC 2 F1 ?_
      refine tS 1 F1 ?_
      skip
      refine tC 2 F1 ?_
      refine tL F1 ?_
      refine hk19 _ ?_
      refine hn18 (some ([5, 7, 9, 10, 11, 12, 14, 87], none)) _ ?_
      refine eCf ?_
      refine hn17 (some ([5, 7, 9, 10, 11, 12, 14], none)) _ ?_
      refine eS fun K20 hn20 hr20 he20 => ?_
      refine eS fun K21 hn21 hr21 he21 => ?_
      refine eO fun K22 hk22 => ?_
      refine tC 2 F1 ?_
      refine tC 2 F1 ?_
      refine tC 2 F1 ?_
      refine tS 1 F1 ?_
      refine Or.inl (Or.inl ⟨_, k13, ?_⟩)
      refine tC 2 F1 ?_
      refine tC 1 F1 ?_
      refine tC 4 F1 ?_
      refine tC 3 F1 ?_
      refine tS 1 F1 ?_
      refine Or.inl (Or.inl ⟨_, k14, ?_⟩)
      refine tC 4 F1 ?_
      refine tS 1 F1 ?_
      skip
      refine tS 1 F1 ?_
      refine tS 1 F1 ?_
      skip
      refine tL F1 ?_
      refine hk22 _ ?_
      refine hn21 (some ([5, 7, 9, 10, 11, 115], none)) _ ?_
      refine eCf ?_
      refine hn20 (some ([5, 7, 9, 10, 11], none)) _ ?_
      refine eS fun K23 hn23 hr23 he23 => ?_
      refine eO fun K24 hk24 => ?_
      refine tS 1 F1 ?_
      refine Or.inl (Or.inl ⟨_, ka, ?_⟩)
      refine tC 2 F1 ?_
      refine tS 1 F1 ?_
      refine Or.inl (Or.inl ⟨_, k4, ?_⟩)
      refine tS 1 F1 ?_
      refine tS 1 F1 ?_
      refine Or.inl (Or.inl ⟨_, aw, ?_⟩)
      refine tC 3 F1 ?_
      refine tS 1 F1 ?_
      refine Or.inl (Or.inl ⟨_, k5, ?_⟩)
      refine tS 1 F1 ?_
      refine tS 1 F1 ?_
      refine Or.inl (Or.inl ⟨_, al, ?_⟩)
      refine tC 3 F1 ?_
      refine tC 2 F1 ?_
      refine tS 1 F1 ?_
      refine Or.inl (Or.inl ⟨_, k6, ?_⟩)
      refine tC 2 F1 ?_
      refine tL F1 ?_
      refine hk24 _ ?_
      refine hn23 (some ([6], none)) _ ?_
      exact sf1 F1
  · have hdo : doM M d.thread d.act d.choice = (M, zGot, checkM M d.thread d.act) := by unfold doM; rw [if_neg he]
    rw [hdo] at k7
    have d1 : (checkM M d.thread d.act != 0) = true := by simpa using he
    have d2 : (checkM M d.thread d.act == 0) = false := by simpa using he
    generalize checkM M d.thread d.act = e at k7 d1 d2
    generalize stepsM M d.thread = s at k6
    generalize leftM M.lines (fun _ _ => 0) = lv at k5 al
    generalize wordsM M = wv at k4 aw
    have kz : EqSh 50 (.agg [sI 0, sU 0, sU 0, sB false]) (.agg [sI 0, sU 0, sU 0, sB false]) true := eqsh_got_refl zWord false
    unfold evFn sc_MachineRefuses rv_MachineRefuses
    have F1 := And.intro @q1 (And.intro @q2 (And.intro @q3 (And.intro @hd (And.intro @e1 (And.intro @z1 (And.intro @d1 @d2))))))
    refine eS fun K1 hn1 hr1 he1 => ?_
    refine eO fun K2 hk2 => ?_
    refine tL F1 ?_
    refine hk2 _ ?_
    refine hn1 (some ([0, 1, 5], none)) _ ?_
    refine eS fun K3 hn3 hr3 he3 => ?_
    refine eS fun K4 hn4 hr4 he4 => ?_
    refine eD [] (n := 6) fun K5 hk5 => ?_
    refine sq0 ?_
    refine fC 2 F1 ?_
    refine fS 2 F1 ?_
    refine Or.inr ?_
    refine sd ?_
    refine fC 1 F1 ?_
    refine fZ F1 ?_
    refine hk5 _ ?_
    refine sr0 ?_
    refine tC 1 F1 ?_
    refine tS 1 F1 ?_
    refine Or.inl (Or.inl ⟨_, k0, ?_⟩)
    refine tC 5 F1 ?_
    refine tL F1 ?_
    refine hn4 (some ([0, 1, 5, 28], none)) _ ?_
    refine eCf ?_
    refine hn3 (some ([0, 1, 5], none)) _ ?_
    refine eS fun K7 hn7 hr7 he7 => ?_
    refine eO fun K8 hk8 => ?_
    refine tS 2 F1 ?_
    refine tS 1 F1 ?_
    refine Or.inl (Or.inl ⟨_, k2, ?_⟩)
    refine tC 5 F1 ?_
    refine tL F1 ?_
    refine hk8 _ ?_
    refine hn7 (some ([5, 7, 8], none)) _ ?_
    refine eS fun K9 hn9 hr9 he9 => ?_
    refine eS fun K10 hn10 hr10 he10 => ?_
    refine eO fun K11 hk11 => ?_
    refine tL F1 ?_
    refine hk11 _ ?_
    refine hn10 (some ([5, 7, 37], none)) _ ?_
    refine eCf ?_
    refine hn9 (some ([5, 7], none)) _ ?_
    refine eS fun K12 hn12 hr12 he12 => ?_
    refine eD [] (n := 7) fun K13 hk13 => ?_
    refine sq0 ?_
    refine fC 1 F1 ?_
    refine fS 1 F1 ?_
    refine ⟨_, k4, ?_⟩
    refine fC 1 F1 ?_
    refine fS 1 F1 ?_
    refine ⟨_, k5, ?_⟩
    refine fC 1 F1 ?_
    refine fZ F1 ?_
    refine hk13 _ ?_
    refine sr0 ?_
    refine tS 1 F1 ?_
    refine Or.inl (Or.inl ⟨_, k6, ?_⟩)
    refine tL F1 ?_
    refine hn12 (some ([5, 7, 9, 10, 11], none)) _ ?_
    refine eS fun K15 hn15 hr15 he15 => ?_
    refine eO fun K16 hk16 => ?_
    refine tC 1 F1 ?_
    refine tC 2 F1 ?_
    refine tC 2 F1 ?_
    refine tC 2 F1 ?_
    refine tS 1 F1 ?_
    refine Or.inl (Or.inl ⟨_, k7, ?_⟩)
    refine tC 7 F1 ?_
    refine tC 1 F1 ?_
    refine tL F1 ?_
    refine hk16 _ ?_
    refine hn15 (some ([5, 7, 9, 10, 11, 12, 13, 14], none)) _ ?_
    refine eS fun K17 hn17 hr17 he17 => ?_
    refine eS fun K18 hn18 hr18 he18 => ?_
    refine eO fun K19 hk19 => ?_
    refine tC 2 F1 ?_
    refine tC 2 F1 ?_
    refine tS 1 F1 ?_
    refine tS 1 F1 ?_
    refine Or.inl ⟨_, kz, ?_⟩
    refine tC 2 F1 ?_
    refine tS 1 F1 ?_
    refine Or.inl (Or.inl ⟨_, k4, ?_⟩)
    refine tS 1 F1 ?_
    refine tS 1 F1 ?_
    refine Or.inl (Or.inl ⟨_, aw, ?_⟩)
    refine tC 4 F1 ?_
    refine tS 1 F1 ?_
    refine Or.inl (Or.inl ⟨_, k5, ?_⟩)
    refine tS 1 F1 ?_
    refine tS 1 F1 ?_
    refine Or.inl (Or.inl ⟨_, al, ?_⟩)
    refine tC 4 F1 ?_
    refine tC 2 F1 ?_
    refine tS 1 F1 ?_
    refine Or.inl (Or.inl ⟨_, k6, ?_⟩)
    refine tC 2 F1 ?_
    refine tL F1 ?_
    refine hk19 _ ?_
    refine hn18 (some ([5, 7, 9, 10, 11, 12, 14, 87], none)) _ ?_
    refine eCf ?_
    refine hn17 (some ([5, 7, 9, 10, 11, 12, 14], none)) _ ?_
    refine eS fun K20 hn20 hr20 he20 => ?_
    refine eS fun K21 hn21 hr21 he21 => ?_
    refine eO fun K22 hk22 => ?_
    refine tC 2 F1 ?_
    refine tC 2 F1 ?_
    refine tC 2 F1 ?_
    refine tS 1 F1 ?_
    skip
    refine tC 2 F1 ?_
    refine tC 1 F1 ?_
    refine tC 4 F1 ?_
    refine tC 3 F1 ?_
    refine tS 1 F1 ?_
    skip
    refine tC 4 F1 ?_
    refine tS 1 F1 ?_
    skip
    refine tS 1 F1 ?_
    refine tS 1 F1 ?_
    skip
    refine tL F1 ?_
    refine hk22 _ ?_
    refine hn21 (some ([5, 7, 9, 10, 11, 115], none)) _ ?_
    refine eCf ?_
    refine hn20 (some ([5, 7, 9, 10, 11], none)) _ ?_
    refine eS fun K23 hn23 hr23 he23 => ?_
    refine eO fun K24 hk24 => ?_
    refine tS 1 F1 ?_
    refine Or.inl (Or.inl ⟨_, ka, ?_⟩)
    refine tC 2 F1 ?_
    refine tS 1 F1 ?_
    refine Or.inl (Or.inl ⟨_, k4, ?_⟩)
    refine tS 1 F1 ?_
    refine tS 1 F1 ?_
    refine Or.inl (Or.inl ⟨_, aw, ?_⟩)
    refine tC 3 F1 ?_
    refine tS 1 F1 ?_
    refine Or.inl (Or.inl ⟨_, k5, ?_⟩)
    refine tS 1 F1 ?_
    refine tS 1 F1 ?_
    refine Or.inl (Or.inl ⟨_, al, ?_⟩)
    refine tC 3 F1 ?_
    refine tC 2 F1 ?_
    refine tS 1 F1 ?_
    refine Or.inl (Or.inl ⟨_, k6, ?_⟩)
    refine tC 2 F1 ?_
    refine tL F1 ?_
    refine hk24 _ ?_
    refine hn23 (some ([6], none)) _ ?_
    exact sf1 F1
end Go.Proofs.Ytkoibcblmgmdmaa
