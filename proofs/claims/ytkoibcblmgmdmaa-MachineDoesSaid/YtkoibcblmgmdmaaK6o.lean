/-
  MachineDoes, by shadows: the specification's two actions.
-/
import Derived.Test.YtkoibcblmgmdmaaK6e
import Derived.Test.YtkoibcblmgmdmaaEqG
import Derived.Test.YtkoibcblmgmdmaaShS
import Derived.Test.YtkoibcblmgmdmaaMC
namespace Go.Proofs.Ytkoibcblmgmdmaa
set_option linter.unusedSimpArgs false
set_option linter.unusedVariables false
open Go.RowKit Go.Maps

abbrev cTwo (m : MemM) (L : LinesM) (nv : Int) (i : Nat) (cr : Int) : List Sh := [.sl 1 0 (m.places.map ePlace), .sl 1 0 (m.views.map eV1), .sl 3 0 (L.first.map eWord), .sl 2 0 (L.logs.map eLog), .mp 3 fun t => (L.asks t).map eAsked, sI nv, .own i, sI cr]
structure StepF (f : Int → Option Sh) (M : MachM) : Prop where
  is : ∀ j, (f j).getD (.v (.int .i64 0)) = sI (stepsM M j)
  in8 : ∀ j, f j ≠ none → 1 ≤ j ∧ j ≤ 8
theorem steps_at {M : MachM} {n : Nat} (hM : MachOk M n) {t : Int} {a : ActM} (c : Int) (h : checkM M t a = 0) (j : Int) : stepsM (doM M t a c).1 j = if j = t then stepsM M t + 1 else stepsM M j := by
  obtain ⟨ht, _, _⟩ := check_zero h
  have hst := (machOk_act hM c h).2.1
  have hth := hM.threads
  unfold ThrB at ht
  unfold doM
  rw [if_pos h]
  show stepsM (tickM (actM M t a c).1 t) j = _
  unfold stepsM tickM
  simp only [List.length_set, hst]
  by_cases hj : j = t
  · subst hj
    have c1 : ¬ (j < 1 ∨ (M.steps.length : Int) < j) := by omega
    simp only [if_neg c1, if_pos]
    obtain ⟨m, hm⟩ := Int.eq_ofNat_of_zero_le (show 0 ≤ j - 1 by omega)
    rw [hm, Int.toNat_natCast, List.getElem?_set_self (by omega)]
    rfl
  · rw [if_neg hj]
    by_cases hj2 : j < 1 ∨ (M.steps.length : Int) < j
    · rw [if_pos hj2, if_pos hj2]
    · rw [if_neg hj2, if_neg hj2, List.getElem?_set_ne (by omega)]
theorem stepsB {M : MachM} {n : Nat} (hM : MachOk M n) (t : Int) : 0 ≤ stepsM M t ∧ stepsM M t ≤ n := by
  unfold stepsM
  split
  · omega
  · cases h : M.steps[(t - 1).toNat]? with
    | none => simp
    | some s => exact hM.steps s (List.mem_of_getElem? h)
theorem stepF_do {M : MachM} {n : Nat} (hM : MachOk M n) {t : Int} {a : ActM} (c : Int) (h : checkM M t a = 0) {f : Int → Option Sh} (hf : StepF f M) : StepF (fun j => if j = t then some (sI (stepsM M t + 1)) else f j) (doM M t a c).1 := by
  obtain ⟨ht, _, _⟩ := check_zero h
  have hvl := hM.mem.vl
  refine ⟨fun j => ?_, fun j hj => ?_⟩
  · rw [steps_at hM c h]
    by_cases e : j = t
    · rw [if_pos e, if_pos e]; rfl
    · rw [if_neg e, if_neg e]; exact hf.is j
  · by_cases e : j = t
    · have := ht.1; have := ht.2; omega
    · simp only [if_neg e] at hj
      exact hf.in8 j hj
theorem stepF_keep {M X : MachM} {f : Int → Option Sh} (hf : StepF f M) (h : X.steps = M.steps) : StepF f X := ⟨fun j => by rw [hf.is j]; unfold stepsM; rw [h], hf.in8⟩
def wordsQ (M : MemM) : List WordV := (List.range M.places.length).map fun (p : Nat) => lastWM M (p : Int)
def LsInv (M : MemM) (m : Nat) (S : St) : Prop :=
  ∃ i : Nat, i ≤ M.places.length ∧ m = M.places.length - i ∧ S = ⟨[(1, .ptr 0 0 0), (5, .own 1), (14, sI M.places.length), (15, sI i)], [(0, .box 37 [.sl 1 0 (M.places.map ePlace), .sl 1 0 (M.views.map eV1)]), (1, .row 27 3 (((wordsQ M).take i).map eWord))], 2⟩
set_option maxHeartbeats 2000000 in
theorem ok_l6last (M : MemM) {n : Nat} (hM : MemOk M n) (hn : n ≤ 100000) : Ok 22 [eMem M] (.sl 3 0 ((wordsQ M).map eWord)) := by
  refine ok_of_tr Try.func22 tr_l6last rfl ?_
  have hpl := hM.pl
  have hwl : (wordsQ M).length = M.places.length := by simp [wordsQ]
  unfold evFn sc_l6last rv_l6last
  refine eS fun K1 hn1 hr1 he1 => ?_;refine eO fun K2 hk2 => ?_;refine tL0 ?_;refine hk2 _ ?_;refine hn1 (some ([1], none)) _ ?_;refine eS fun K3 hn3 hr3 he3 => ?_;refine eO fun K4 hk4 => ?_;refine tC0 1 ?_;refine tS0 1 ?_;refine Or.inl (Or.inl ⟨_, ok_mSize M, ?_⟩);refine tL0 ?_;refine hk4 _ ?_;refine hn3 (some ([1, 4], none)) _ ?_;refine eS fun K5 hn5 hr5 he5 => ?_;refine eO fun K6 hk6 => ?_;refine tL0 ?_;refine hk6 _ ?_;refine hn5 (some ([1, 4, 5], none)) _ ?_;refine eS fun K7 hn7 hr7 he7 => ?_;refine eS fun K8 hn8 hr8 he8 => ?_;refine eO fun K9 hk9 => ?_;refine tL0 ?_;refine hk9 _ ?_;refine hn8 (some ([1, 5, 14, 15], none)) _ ?_
  refine eB fun K10 hn10 hx10 hr10 he10 => ?_;refine eW (LsInv M) (M.places.length) (some ([1, 5, 14, 15], some ([0, 1], 2))) ([.slot 5 (some 27) 3]) ?_ ?_
  · try refine lp0 ?_
    exact ⟨0, by omega, by omega, rfl⟩
  · intro k S1 hI
    obtain ⟨i, hi, rfl, rfl⟩ := hI
    have hcase : i = M.places.length ∨ i < M.places.length := by omega
    intro K11 hn11 hr11 he11
    rcases hcase with hcc | hcc
    · skip
      have w2 : ¬ (i : Int) < (M.places.length : Int) := by omega
      have w3 : (wordsQ M).take i = wordsQ M := by rw [List.take_of_length_le (by omega)]
      have F1 := And.intro @w2 @w3
      refine eS fun K12 hn12 hr12 he12 => ?_;refine eO fun K13 hk13 => ?_;refine tZ F1 ?_;refine hk13 _ ?_;refine hn12 (some ([1, 5, 14, 15, 16], none)) _ ?_;refine eS fun K14 hn14 hr14 he14 => ?_;refine eCf ?_;refine he14 0 _ ?_;refine he11 0 _ ?_;refine hx10 _ ?_;refine hn7 (some ([5], none)) _ ?_;refine eS fun K15 hn15 hr15 he15 => ?_;refine eO fun K16 hk16 => ?_;refine tL F1 ?_;refine hk16 _ ?_;refine hn15 (some ([2], none)) _ ?_
      exact sf1 F1
    · skip
      skip
      have w2 : (i : Int) < (M.places.length : Int) := by omega
      have w3 : IntKind.i64.wrap ((i : Int) + 1) = ((i + 1 : Nat) : Int) := by rw [IntKind.wrap_i64]; omega
      have c1 := ok_mLast M (i : Int) hM hn
      have e1 : (wordsQ M)[i]? = some (lastWM M (i : Int)) := by simp [wordsQ, hcc]
      have e2 : (wordsQ M).take (i + 1) = (wordsQ M).take i ++ [lastWM M (i : Int)] := by rw [List.take_add_one, e1]; rfl
      generalize lastWM M (i : Int) = w at c1 e2
      have w4 : ((wordsQ M).take i).length = i := by simp; omega
      have w5 : (i + 1) * 16 ≤ 140737488355328 := by omega
      have F2 := And.intro @w2 (And.intro @w3 (And.intro @w4 @w5))
      refine eS fun K17 hn17 hr17 he17 => ?_;refine eO fun K18 hk18 => ?_;refine tZ F2 ?_;refine hk18 _ ?_;refine hn17 (some ([1, 5, 14, 15, 16], none)) _ ?_;refine eS fun K19 hn19 hr19 he19 => ?_;refine eCt ?_;refine hn19 (some ([1, 5, 14, 15], none)) _ ?_;refine eS fun K20 hn20 hr20 he20 => ?_;refine eB fun K21 hn21 hx21 hr21 he21 => ?_;refine eS fun K22 hn22 hr22 he22 => ?_;refine eO fun K23 hk23 => ?_;refine tL F2 ?_;refine hk23 _ ?_;refine hn22 (some ([1, 5, 6, 14, 15], none)) _ ?_;refine eS fun K24 hn24 hr24 he24 => ?_;refine eO fun K25 hk25 => ?_;refine tC 1 F2 ?_;refine tS 1 F2 ?_;refine tS 1 F2 ?_
      refine Or.inl (Or.inl ⟨_, c1, ?_⟩);refine tC 5 F2 ?_;refine tL F2 ?_;refine hk25 _ ?_;refine hn24 (some ([1, 5, 7, 14, 15], none)) _ ?_;refine eO fun K26 hk26 => ?_;refine tC 2 F2 ?_;refine tC 1 F2 ?_;refine tC 1 F2 ?_;refine tL F2 ?_;refine hk26 _ ?_;refine hn21 _ ?_;refine hn20 (some ([1, 5, 14, 15], none)) _ ?_;refine eO fun K27 hk27 => ?_;refine tC 1 F2 ?_;refine tL F2 ?_;refine hk27 _ ?_;refine hn11 (M.places.length - (i + 1)) (some ([1, 5, 14, 15], some ([0, 3], 2))) _ ?_ ?_
      all_goals try refine lp0 ?_
      · omega
      · exact ⟨i + 1, by omega, by omega, by rw [e2, List.map_append]; rfl⟩
set_option maxRecDepth 20000 in
set_option maxHeartbeats 16000000 in
theorem okO_l6do (A B C D : Ob) {M X : MachM} {t : Int} {a : ActM} {c e : Int} {g : GotV} {N N2 : Nat} {f f2 : Int → Option Sh} {n : Nat} (hM : MachOk M n) (hn : n ≤ 900) (hf : StepF f M) (hN : N ≤ 9) (hX : doM M t a c = (X, g, e))
    (hf2 : f2 = if checkM M t a = 0 then (fun j => if j = t then some (sI (stepsM M t + 1)) else f j) else f) (hN2 : N2 = if checkM M t a = 0 then 9 else N) :
    OkO 21 [.ptr 1 0 0, sI t, .agg (eAct4 a), sI c] [(5, A), (4, B), (3, C), (0, D), (1, .box 66 (cTwo M.mem M.lines M.mem.views.length 2 M.crashes)), (2, .map 3 N f)] 6 (fun J r O' n' => r = .tup [.agg (eGot g), sI e] ∧ O' = [(0, D), (1, .box 66 (cTwo X.mem X.lines M.mem.views.length 2 X.crashes)), (2, .map 3 N2 f2), (3, C), (4, B), (5, A), (6, .gh J)] ∧ n' = 10) := by
  refine okO_of_tr Try.func21 tr_l6do rfl fun J => ?_
  have k0 := ok_mSize M.mem
  obtain ⟨op, p, o, w⟩ := a
  by_cases h : checkM M t ⟨op, p, o, w⟩ = 0
  case neg =>
    have hdo : doM M t ⟨op, p, o, w⟩ c = (M, zGot, checkM M t ⟨op, p, o, w⟩) := by unfold doM; rw [if_neg h]
    rw [hdo] at hX
    cases hX
    rw [if_neg h] at hf2 hN2
    subst hf2 hN2
    unfold checkM at h ⊢
    simp only at h ⊢
    by_cases h1 : t < 1
    · rw [if_pos (.inl h1)]
      unfold evFnO sc_l6do rv_l6do
      have F1 := @h1
      refine eS fun K1 hn1 hr1 he1 => ?_;refine eO fun K2 hk2 => ?_;refine tL F1 ?_;refine hk2 _ ?_;refine hn1 (some ([0, 1, 3, 6, 8], none)) _ ?_;refine eS fun K3 hn3 hr3 he3 => ?_;refine eO fun K4 hk4 => ?_;refine tC 4 F1 ?_;refine tS 1 F1 ?_;refine Or.inl (Or.inl ⟨_, k0, ?_⟩);refine tL F1 ?_;refine hk4 _ ?_;refine hn3 (some ([0, 1, 3, 6, 8, 11], none)) _ ?_;refine eS fun K5 hn5 hr5 he5 => ?_;refine eB fun K6 hn6 hx6 hr6 he6 => ?_;refine eS fun K7 hn7 hr7 he7 => ?_;refine eO fun K8 hk8 => ?_;refine tC 2 F1 ?_;refine tC 6 F1 ?_;refine tC 1 F1 ?_;refine tL F1 ?_;refine hk8 _ ?_;refine hn7 (some ([0, 1, 3, 6, 8, 11, 22], none)) _ ?_
      refine eCt ?_;refine eS fun K9 hn9 hr9 he9 => ?_;refine eO fun K10 hk10 => ?_;refine tC 2 F1 ?_;refine tL F1 ?_;refine hk10 _ ?_;refine hn9 (some ([8, 9], none)) _ ?_;refine hr6 _ ?_;refine hr5 _ ?_
      first | refine finK_ret [0, 1, 2, 3, 4, 5, 6] 10 (by rfl) (Nat.le_of_ble_eq_true rfl) (by rfl) ?_ | refine finK_next [0, 1, 2, 3, 4, 5, 6] 10 (by rfl) (Nat.le_of_ble_eq_true rfl) (by rfl) ?_
      exact ⟨by rfl, by rfl, by rfl⟩
    by_cases h2 : (M.mem.views.length : Int) < t
    · rw [if_pos (.inr h2)]
      unfold evFnO sc_l6do rv_l6do
      have F1 := And.intro @h1 @h2
      refine eS fun K1 hn1 hr1 he1 => ?_;refine eO fun K2 hk2 => ?_;refine tL F1 ?_;refine hk2 _ ?_;refine hn1 (some ([0, 1, 3, 6, 8], none)) _ ?_;refine eS fun K3 hn3 hr3 he3 => ?_;refine eO fun K4 hk4 => ?_;refine tC 4 F1 ?_;refine tS 1 F1 ?_;refine Or.inl (Or.inl ⟨_, k0, ?_⟩);refine tL F1 ?_;refine hk4 _ ?_;refine hn3 (some ([0, 1, 3, 6, 8, 11], none)) _ ?_;refine eS fun K5 hn5 hr5 he5 => ?_;refine eB fun K6 hn6 hx6 hr6 he6 => ?_;refine eS fun K7 hn7 hr7 he7 => ?_;refine eO fun K8 hk8 => ?_;refine tC 2 F1 ?_;refine tC 6 F1 ?_;refine tC 1 F1 ?_;refine tL F1 ?_;refine hk8 _ ?_;refine hn7 (some ([0, 1, 3, 6, 8, 11, 22], none)) _ ?_
      refine eCt ?_;refine eS fun K9 hn9 hr9 he9 => ?_;refine eO fun K10 hk10 => ?_;refine tC 2 F1 ?_;refine tL F1 ?_;refine hk10 _ ?_;refine hn9 (some ([8, 9], none)) _ ?_;refine hr6 _ ?_;refine hr5 _ ?_
      first | refine finK_ret [0, 1, 2, 3, 4, 5, 6] 10 (by rfl) (Nat.le_of_ble_eq_true rfl) (by rfl) ?_ | refine finK_next [0, 1, 2, 3, 4, 5, 6] 10 (by rfl) (Nat.le_of_ble_eq_true rfl) (by rfl) ?_
      exact ⟨by rfl, by rfl, by rfl⟩
    rw [if_neg (by omega)] at h ⊢
    by_cases h3 : op < 0
    · rw [if_pos (.inl h3)]
      unfold evFnO sc_l6do rv_l6do
      have F1 := And.intro @h1 (And.intro @h2 @h3)
      refine eS fun K1 hn1 hr1 he1 => ?_;refine eO fun K2 hk2 => ?_;refine tL F1 ?_;refine hk2 _ ?_;refine hn1 (some ([0, 1, 3, 6, 8], none)) _ ?_;refine eS fun K3 hn3 hr3 he3 => ?_;refine eO fun K4 hk4 => ?_;refine tC 4 F1 ?_;refine tS 1 F1 ?_;refine Or.inl (Or.inl ⟨_, k0, ?_⟩);refine tL F1 ?_;refine hk4 _ ?_;refine hn3 (some ([0, 1, 3, 6, 8, 11], none)) _ ?_;refine eS fun K5 hn5 hr5 he5 => ?_;refine eB fun K6 hn6 hx6 hr6 he6 => ?_;refine eS fun K7 hn7 hr7 he7 => ?_;refine eO fun K8 hk8 => ?_;refine tC 2 F1 ?_;refine tC 6 F1 ?_;refine tC 1 F1 ?_;refine tL F1 ?_;refine hk8 _ ?_;refine hn7 (some ([0, 1, 3, 6, 8, 11, 22], none)) _ ?_
      refine eCf ?_;refine eS fun K9 hn9 hr9 he9 => ?_;refine eO fun K10 hk10 => ?_;refine tC 2 F1 ?_;refine tC 1 F1 ?_;refine tC 3 F1 ?_;refine tC 1 F1 ?_;refine tL F1 ?_;refine hk10 _ ?_;refine hn9 (some ([0, 1, 3, 6, 8, 11, 34], none)) _ ?_;refine eCt ?_;refine eS fun K11 hn11 hr11 he11 => ?_;refine eO fun K12 hk12 => ?_;refine tC 2 F1 ?_;refine tL F1 ?_;refine hk12 _ ?_;refine hn11 (some ([8, 9], none)) _ ?_;refine hr6 _ ?_;refine hr5 _ ?_
      first | refine finK_ret [0, 1, 2, 3, 4, 5, 6] 10 (by rfl) (Nat.le_of_ble_eq_true rfl) (by rfl) ?_ | refine finK_next [0, 1, 2, 3, 4, 5, 6] 10 (by rfl) (Nat.le_of_ble_eq_true rfl) (by rfl) ?_
      exact ⟨by rfl, by rfl, by rfl⟩
    by_cases h4 : 8 < op
    · rw [if_pos (.inr h4)]
      unfold evFnO sc_l6do rv_l6do
      have F1 := And.intro @h1 (And.intro @h2 (And.intro @h3 @h4))
      refine eS fun K1 hn1 hr1 he1 => ?_;refine eO fun K2 hk2 => ?_;refine tL F1 ?_;refine hk2 _ ?_;refine hn1 (some ([0, 1, 3, 6, 8], none)) _ ?_;refine eS fun K3 hn3 hr3 he3 => ?_;refine eO fun K4 hk4 => ?_;refine tC 4 F1 ?_;refine tS 1 F1 ?_;refine Or.inl (Or.inl ⟨_, k0, ?_⟩);refine tL F1 ?_;refine hk4 _ ?_;refine hn3 (some ([0, 1, 3, 6, 8, 11], none)) _ ?_;refine eS fun K5 hn5 hr5 he5 => ?_;refine eB fun K6 hn6 hx6 hr6 he6 => ?_;refine eS fun K7 hn7 hr7 he7 => ?_;refine eO fun K8 hk8 => ?_;refine tC 2 F1 ?_;refine tC 6 F1 ?_;refine tC 1 F1 ?_;refine tL F1 ?_;refine hk8 _ ?_;refine hn7 (some ([0, 1, 3, 6, 8, 11, 22], none)) _ ?_
      refine eCf ?_;refine eS fun K9 hn9 hr9 he9 => ?_;refine eO fun K10 hk10 => ?_;refine tC 2 F1 ?_;refine tC 1 F1 ?_;refine tC 3 F1 ?_;refine tC 1 F1 ?_;refine tL F1 ?_;refine hk10 _ ?_;refine hn9 (some ([0, 1, 3, 6, 8, 11, 34], none)) _ ?_;refine eCt ?_;refine eS fun K11 hn11 hr11 he11 => ?_;refine eO fun K12 hk12 => ?_;refine tC 2 F1 ?_;refine tL F1 ?_;refine hk12 _ ?_;refine hn11 (some ([8, 9], none)) _ ?_;refine hr6 _ ?_;refine hr5 _ ?_
      first | refine finK_ret [0, 1, 2, 3, 4, 5, 6] 10 (by rfl) (Nat.le_of_ble_eq_true rfl) (by rfl) ?_ | refine finK_next [0, 1, 2, 3, 4, 5, 6] 10 (by rfl) (Nat.le_of_ble_eq_true rfl) (by rfl) ?_
      exact ⟨by rfl, by rfl, by rfl⟩
    rw [if_neg (by omega)] at h ⊢
    have hp : op ≠ 0 ∧ op ≠ 8 ∧ (p < 0 ∨ (M.mem.places.length : Int) ≤ p) := Decidable.byContradiction fun hc => h (if_neg hc)
    rw [if_pos hp]
    have d5 : (op != 0) = true := by simpa using hp.1
    have d6 : (op != 8) = true := by simpa using hp.2.1
    by_cases h7 : p < 0
    · skip
      unfold evFnO sc_l6do rv_l6do
      have F1 := And.intro @h1 (And.intro @h2 (And.intro @h3 (And.intro @h4 (And.intro @d5 (And.intro @d6 @h7)))))
      refine eS fun K1 hn1 hr1 he1 => ?_;refine eO fun K2 hk2 => ?_;refine tL F1 ?_;refine hk2 _ ?_;refine hn1 (some ([0, 1, 3, 6, 8], none)) _ ?_;refine eS fun K3 hn3 hr3 he3 => ?_;refine eO fun K4 hk4 => ?_;refine tC 4 F1 ?_;refine tS 1 F1 ?_;refine Or.inl (Or.inl ⟨_, k0, ?_⟩);refine tL F1 ?_;refine hk4 _ ?_;refine hn3 (some ([0, 1, 3, 6, 8, 11], none)) _ ?_;refine eS fun K5 hn5 hr5 he5 => ?_;refine eB fun K6 hn6 hx6 hr6 he6 => ?_;refine eS fun K7 hn7 hr7 he7 => ?_;refine eO fun K8 hk8 => ?_;refine tC 2 F1 ?_;refine tC 6 F1 ?_;refine tC 1 F1 ?_;refine tL F1 ?_;refine hk8 _ ?_;refine hn7 (some ([0, 1, 3, 6, 8, 11, 22], none)) _ ?_
      refine eCf ?_;refine eS fun K9 hn9 hr9 he9 => ?_;refine eO fun K10 hk10 => ?_;refine tC 2 F1 ?_;refine tC 1 F1 ?_;refine tC 3 F1 ?_;refine tC 1 F1 ?_;refine tL F1 ?_;refine hk10 _ ?_;refine hn9 (some ([0, 1, 3, 6, 8, 11, 34], none)) _ ?_;refine eCf ?_;refine eS fun K11 hn11 hr11 he11 => ?_;refine eO fun K12 hk12 => ?_;refine tC 2 F1 ?_;refine tC 1 F1 ?_;refine tC 3 F1 ?_;refine tC 1 F1 ?_;refine tC 4 F1 ?_;refine tC 1 F1 ?_;refine tC 3 F1 ?_;refine tC 2 F1 ?_;refine tL F1 ?_;refine hk12 _ ?_;refine hn11 (some ([0, 1, 3, 6, 8, 44], none)) _ ?_;refine eCt ?_;refine eS fun K13 hn13 hr13 he13 => ?_
      refine eO fun K14 hk14 => ?_;refine tC 2 F1 ?_;refine tL F1 ?_;refine hk14 _ ?_;refine hn13 (some ([8, 9], none)) _ ?_;refine hr6 _ ?_;refine hr5 _ ?_
      first | refine finK_ret [0, 1, 2, 3, 4, 5, 6] 10 (by rfl) (Nat.le_of_ble_eq_true rfl) (by rfl) ?_ | refine finK_next [0, 1, 2, 3, 4, 5, 6] 10 (by rfl) (Nat.le_of_ble_eq_true rfl) (by rfl) ?_
      exact ⟨by rfl, by rfl, by rfl⟩
    have h8 : (M.mem.places.length : Int) ≤ p := by omega
    unfold evFnO sc_l6do rv_l6do
    have F1 := And.intro @h1 (And.intro @h2 (And.intro @h3 (And.intro @h4 (And.intro @d5 (And.intro @d6 (And.intro @h7 @h8))))))
    refine eS fun K1 hn1 hr1 he1 => ?_;refine eO fun K2 hk2 => ?_;refine tL F1 ?_;refine hk2 _ ?_;refine hn1 (some ([0, 1, 3, 6, 8], none)) _ ?_;refine eS fun K3 hn3 hr3 he3 => ?_;refine eO fun K4 hk4 => ?_;refine tC 4 F1 ?_;refine tS 1 F1 ?_;refine Or.inl (Or.inl ⟨_, k0, ?_⟩);refine tL F1 ?_;refine hk4 _ ?_;refine hn3 (some ([0, 1, 3, 6, 8, 11], none)) _ ?_;refine eS fun K5 hn5 hr5 he5 => ?_;refine eB fun K6 hn6 hx6 hr6 he6 => ?_;refine eS fun K7 hn7 hr7 he7 => ?_;refine eO fun K8 hk8 => ?_;refine tC 2 F1 ?_;refine tC 6 F1 ?_;refine tC 1 F1 ?_;refine tL F1 ?_;refine hk8 _ ?_;refine hn7 (some ([0, 1, 3, 6, 8, 11, 22], none)) _ ?_
    refine eCf ?_;refine eS fun K9 hn9 hr9 he9 => ?_;refine eO fun K10 hk10 => ?_;refine tC 2 F1 ?_;refine tC 1 F1 ?_;refine tC 3 F1 ?_;refine tC 1 F1 ?_;refine tL F1 ?_;refine hk10 _ ?_;refine hn9 (some ([0, 1, 3, 6, 8, 11, 34], none)) _ ?_;refine eCf ?_;refine eS fun K11 hn11 hr11 he11 => ?_;refine eO fun K12 hk12 => ?_;refine tC 2 F1 ?_;refine tC 1 F1 ?_;refine tC 3 F1 ?_;refine tC 1 F1 ?_;refine tC 4 F1 ?_;refine tC 1 F1 ?_;refine tC 3 F1 ?_;refine tC 2 F1 ?_;refine tL F1 ?_;refine hk12 _ ?_;refine hn11 (some ([0, 1, 3, 6, 8, 44], none)) _ ?_;refine eCt ?_;refine eS fun K13 hn13 hr13 he13 => ?_
    refine eO fun K14 hk14 => ?_;refine tC 2 F1 ?_;refine tL F1 ?_;refine hk14 _ ?_;refine hn13 (some ([8, 9], none)) _ ?_;refine hr6 _ ?_;refine hr5 _ ?_
    first | refine finK_ret [0, 1, 2, 3, 4, 5, 6] 10 (by rfl) (Nat.le_of_ble_eq_true rfl) (by rfl) ?_ | refine finK_next [0, 1, 2, 3, 4, 5, 6] 10 (by rfl) (Nat.le_of_ble_eq_true rfl) (by rfl) ?_
    exact ⟨by rfl, by rfl, by rfl⟩
  rw [if_pos h] at hf2 hN2
  obtain ⟨ht, hop, hpl⟩ := check_zero h
  have hthr := hM.threads
  have hvl := hM.mem.vl
  have x1 : ¬ t < 1 := by have := ht.1; omega
  have x2 : ¬ (M.mem.views.length : Int) < t := by have := ht.2; omega
  have hft := hf.is t
  have hsb := stepsB hM t
  have q2 : IntKind.i64.wrap (stepsM M t + 1) = stepsM M t + 1 := by rw [IntKind.wrap_i64]; omega
  have qN : N < 1000000 := by omega
  have q3 : -9223372036854775808 ≤ t := by omega
  have q4 : t ≤ 9223372036854775807 := by have := ht.2; omega
  have hbd : ∀ j, (if j = t then some (sI (stepsM M t + 1)) else f j) ≠ none → 0 ≤ j ∧ j < ((9 : Nat) : Int) := fun j hj => by
    by_cases e : j = t
    · have := ht.1; have := ht.2; omega
    · rw [if_neg e] at hj
      have := hf.in8 j hj
      omega
  have hcs : op = 0 ∨ op = 1 ∨ op = 2 ∨ op = 3 ∨ op = 4 ∨ op = 5 ∨ op = 6 ∨ op = 7 ∨ op = 8 := by have := hop; simp only at this; omega
  have hw0 : op ≠ 0 → op ≠ 8 → wrongM M.mem t p = 0 := fun e1 e2 => wrong_zero.2 ⟨ht, hpl e1 e2⟩
  rcases hcs with hop0 | hop0 | hop0 | hop0 | hop0 | hop0 | hop0 | hop0 | hop0
  · subst hop0
    have eX : doM M t ⟨0, p, o, w⟩ c = (tickM ⟨M.mem, M.lines, M.steps, M.crashes⟩ t, ⟨zWord, true⟩, 0) := by unfold doM; rw [if_pos h]; rfl
    rw [eX] at hX
    cases hX
    subst hf2 hN2
    unfold evFnO sc_l6do rv_l6do
    have F1 := And.intro @x1 (And.intro @x2 (And.intro @q2 (And.intro @q3 (And.intro @q4 (And.intro @qN @hft)))))
    refine eS fun K1 hn1 hr1 he1 => ?_;refine eO fun K2 hk2 => ?_;refine tL F1 ?_;refine hk2 _ ?_;refine hn1 (some ([0, 1, 3, 6, 8], none)) _ ?_;refine eS fun K3 hn3 hr3 he3 => ?_;refine eO fun K4 hk4 => ?_;refine tC 4 F1 ?_;refine tS 1 F1 ?_;refine Or.inl (Or.inl ⟨_, k0, ?_⟩);refine tL F1 ?_;refine hk4 _ ?_;refine hn3 (some ([0, 1, 3, 6, 8, 11], none)) _ ?_;refine eS fun K5 hn5 hr5 he5 => ?_;refine eB fun K6 hn6 hx6 hr6 he6 => ?_;refine eS fun K7 hn7 hr7 he7 => ?_;refine eO fun K8 hk8 => ?_;refine tC 2 F1 ?_;refine tC 6 F1 ?_;refine tC 1 F1 ?_;refine tL F1 ?_;refine hk8 _ ?_;refine hn7 (some ([0, 1, 3, 6, 8, 11, 22], none)) _ ?_
    refine eCf ?_;refine eS fun K9 hn9 hr9 he9 => ?_;refine eO fun K10 hk10 => ?_;refine tC 2 F1 ?_;refine tC 1 F1 ?_;refine tC 3 F1 ?_;refine tC 1 F1 ?_;refine tL F1 ?_;refine hk10 _ ?_;refine hn9 (some ([0, 1, 3, 6, 8, 11, 34], none)) _ ?_;refine eCf ?_;refine eS fun K11 hn11 hr11 he11 => ?_;refine eO fun K12 hk12 => ?_;refine tC 2 F1 ?_;refine tC 1 F1 ?_;refine tC 3 F1 ?_;refine tC 1 F1 ?_;refine tC 4 F1 ?_;refine tC 1 F1 ?_;refine tC 3 F1 ?_;refine tC 2 F1 ?_;refine tL F1 ?_;refine hk12 _ ?_;refine hn11 (some ([0, 1, 3, 6, 8, 44], none)) _ ?_;refine eCf ?_;refine hn6 _ ?_;refine hn5 (some ([0, 1, 3, 6, 8], none)) _ ?_
    refine eS fun K13 hn13 hr13 he13 => ?_;refine eO fun K14 hk14 => ?_;refine tZ F1 ?_;refine hk14 _ ?_;refine hn13 (some ([0, 1, 3, 6, 8, 12], none)) _ ?_;refine eS fun K15 hn15 hr15 he15 => ?_;refine eO fun K16 hk16 => ?_;refine tL F1 ?_;refine hk16 _ ?_;refine hn15 (some ([0, 1, 3, 6, 8, 12, 13], none)) _ ?_;refine eS fun K17 hn17 hr17 he17 => ?_;refine eS fun K18 hn18 hr18 he18 => ?_;refine eO fun K19 hk19 => ?_;refine tZ F1 ?_;refine hk19 _ ?_;refine hn18 (some ([0, 1, 3, 6, 8, 12, 13, 67], none)) _ ?_;refine eB fun K20 hn20 hx20 hr20 he20 => ?_;refine eS fun K21 hn21 hr21 he21 => ?_;refine eS fun K22 hn22 hr22 he22 => ?_
    refine eO fun K23 hk23 => ?_;refine tC 1 F1 ?_;refine tL F1 ?_;refine hk23 _ ?_;refine hn22 (some ([0, 1, 3, 6, 8, 12, 13, 67, 68], none)) _ ?_;refine eCf ?_;refine eO fun K24 hk24 => ?_;refine tC 1 F1 ?_;refine tL F1 ?_;refine hk24 _ ?_;refine hn21 (some ([0, 1, 3, 6, 8, 12, 13, 67, 68], none)) _ ?_;refine eCf ?_;refine eS fun K25 hn25 hr25 he25 => ?_;refine eS fun K26 hn26 hr26 he26 => ?_;refine eO fun K27 hk27 => ?_;refine tC 1 F1 ?_;refine tL F1 ?_;refine hk27 _ ?_;refine hn26 (some ([0, 1, 6, 8, 12, 13, 67, 91], none)) _ ?_;refine eCf ?_;refine eO fun K28 hk28 => ?_;refine tC 1 F1 ?_;refine tL F1 ?_
    refine hk28 _ ?_;refine hn25 (some ([0, 1, 6, 8, 12, 13, 67, 91], none)) _ ?_;refine eCf ?_;refine eS fun K29 hn29 hr29 he29 => ?_;refine eO fun K30 hk30 => ?_;refine tC 1 F1 ?_;refine tL F1 ?_;refine hk30 _ ?_;refine hn29 (some ([0, 1, 6, 8, 12, 13, 67, 128], none)) _ ?_;refine eCf ?_;refine eS fun K31 hn31 hr31 he31 => ?_;refine eO fun K32 hk32 => ?_;refine tC 1 F1 ?_;refine tL F1 ?_;refine hk32 _ ?_;refine hn31 (some ([0, 1, 6, 8, 12, 13, 67, 146], none)) _ ?_;refine eCf ?_;refine eS fun K33 hn33 hr33 he33 => ?_;refine eO fun K34 hk34 => ?_;refine tC 1 F1 ?_;refine tL F1 ?_;refine hk34 _ ?_
    refine hn33 (some ([0, 1, 6, 8, 12, 13, 67, 187], none)) _ ?_;refine eCf ?_;refine eS fun K35 hn35 hr35 he35 => ?_;refine eO fun K36 hk36 => ?_;refine tC 1 F1 ?_;refine tL F1 ?_;refine hk36 _ ?_;refine hn35 (some ([0, 1, 8, 12, 13, 203], none)) _ ?_;refine eCf ?_;refine hn20 _ ?_;refine hn17 (some ([0, 1, 8, 12, 13], none)) _ ?_;refine eS fun K37 hn37 hr37 he37 => ?_;refine eO fun K38 hk38 => ?_;refine tC 4 F1 ?_;refine tC 2 F1 ?_;refine tC 1 F1 ?_;refine tZ F1 ?_;refine Or.inr ⟨9, ⟨by decide, hbd⟩, ?_⟩
    refine hk38 _ ?_;refine hn37 (some ([8, 12, 13], none)) _ ?_;refine eS fun K39 hn39 hr39 he39 => ?_;refine eO fun K40 hk40 => ?_;refine tC 1 F1 ?_;refine tC 2 F1 ?_;refine tL F1 ?_;refine hk40 _ ?_;refine hn39 (some ([8, 9], none)) _ ?_
    first | refine finK_ret [0, 1, 2, 3, 4, 5, 6] 10 (by rfl) (Nat.le_of_ble_eq_true rfl) (by rfl) ?_ | refine finK_next [0, 1, 2, 3, 4, 5, 6] 10 (by rfl) (Nat.le_of_ble_eq_true rfl) (by rfl) ?_
    exact ⟨by rfl, by rfl, by rfl⟩
  · subst hop0
    have hp := hpl (by simp) (by simp)
    simp only at hp
    have x7 : ¬ p < 0 := by have := hp.1; omega
    have x8 : ¬ (M.mem.places.length : Int) ≤ p := by have := hp.2; omega
    have hw := hw0 (by simp) (by simp)
    have c0 := ok_mLoad M.mem t p false c hM.mem (by omega)
    have hz : (loadM M.mem t p false c).2.2 = 0 := by unfold loadM; rw [if_pos hw]
    rw [hz] at c0
    have eX : doM M t ⟨1, p, o, w⟩ c = (tickM ⟨(loadM M.mem t p false c).1, M.lines, M.steps, M.crashes⟩ t, ⟨(loadM M.mem t p false c).2.1, true⟩, 0) := by unfold doM; rw [if_pos h]; rfl
    rw [eX] at hX
    clear eX hz
    generalize loadM M.mem t p false c = R at c0 hX
    cases hX
    subst hf2 hN2
    unfold evFnO sc_l6do rv_l6do
    have F1 := And.intro @x1 (And.intro @x2 (And.intro @q2 (And.intro @q3 (And.intro @q4 (And.intro @qN (And.intro @hft (And.intro @x7 @x8)))))))
    refine eS fun K1 hn1 hr1 he1 => ?_;refine eO fun K2 hk2 => ?_;refine tL F1 ?_;refine hk2 _ ?_;refine hn1 (some ([0, 1, 3, 6, 8], none)) _ ?_;refine eS fun K3 hn3 hr3 he3 => ?_;refine eO fun K4 hk4 => ?_;refine tC 4 F1 ?_;refine tS 1 F1 ?_;refine Or.inl (Or.inl ⟨_, k0, ?_⟩);refine tL F1 ?_;refine hk4 _ ?_;refine hn3 (some ([0, 1, 3, 6, 8, 11], none)) _ ?_;refine eS fun K5 hn5 hr5 he5 => ?_;refine eB fun K6 hn6 hx6 hr6 he6 => ?_;refine eS fun K7 hn7 hr7 he7 => ?_;refine eO fun K8 hk8 => ?_;refine tC 2 F1 ?_;refine tC 6 F1 ?_;refine tC 1 F1 ?_;refine tL F1 ?_;refine hk8 _ ?_;refine hn7 (some ([0, 1, 3, 6, 8, 11, 22], none)) _ ?_
    refine eCf ?_;refine eS fun K9 hn9 hr9 he9 => ?_;refine eO fun K10 hk10 => ?_;refine tC 2 F1 ?_;refine tC 1 F1 ?_;refine tC 3 F1 ?_;refine tC 1 F1 ?_;refine tL F1 ?_;refine hk10 _ ?_;refine hn9 (some ([0, 1, 3, 6, 8, 11, 34], none)) _ ?_;refine eCf ?_;refine eS fun K11 hn11 hr11 he11 => ?_;refine eO fun K12 hk12 => ?_;refine tC 2 F1 ?_;refine tC 1 F1 ?_;refine tC 3 F1 ?_;refine tC 1 F1 ?_;refine tC 4 F1 ?_;refine tC 1 F1 ?_;refine tC 3 F1 ?_;refine tC 2 F1 ?_;refine tL F1 ?_;refine hk12 _ ?_;refine hn11 (some ([0, 1, 3, 6, 8, 44], none)) _ ?_;refine eCf ?_;refine hn6 _ ?_;refine hn5 (some ([0, 1, 3, 6, 8], none)) _ ?_
    refine eS fun K13 hn13 hr13 he13 => ?_;refine eO fun K14 hk14 => ?_;refine tZ F1 ?_;refine hk14 _ ?_;refine hn13 (some ([0, 1, 3, 6, 8, 12], none)) _ ?_;refine eS fun K15 hn15 hr15 he15 => ?_;refine eO fun K16 hk16 => ?_;refine tL F1 ?_;refine hk16 _ ?_;refine hn15 (some ([0, 1, 3, 6, 8, 12, 13], none)) _ ?_;refine eS fun K17 hn17 hr17 he17 => ?_;refine eS fun K18 hn18 hr18 he18 => ?_;refine eO fun K19 hk19 => ?_;refine tZ F1 ?_;refine hk19 _ ?_;refine hn18 (some ([0, 1, 3, 6, 8, 12, 13, 67], none)) _ ?_;refine eB fun K20 hn20 hx20 hr20 he20 => ?_;refine eS fun K21 hn21 hr21 he21 => ?_;refine eS fun K22 hn22 hr22 he22 => ?_
    refine eO fun K23 hk23 => ?_;refine tC 1 F1 ?_;refine tL F1 ?_;refine hk23 _ ?_;refine hn22 (some ([0, 1, 3, 6, 8, 12, 13, 67, 68], none)) _ ?_;refine eCt ?_;refine hn21 (some ([0, 1, 3, 6, 8, 12, 13, 67, 68], none)) _ ?_;refine eCt ?_;refine eD [] (n := 17) fun K24 hk24 => ?_;refine sq0 ?_;refine fC 5 F1 ?_;refine fC 3 F1 ?_;refine fC 2 F1 ?_;refine fC 1 F1 ?_;refine fS 1 F1 ?_;refine fS 1 F1 ?_;refine ⟨_, c0, ?_⟩;refine fL F1 ?_;refine hk24 _ ?_;refine sr0 ?_;refine tC 3 F1 ?_;refine tC 2 F1 ?_;refine tL F1 ?_;refine hn20 _ ?_;refine hn17 (some ([0, 1, 8, 12, 13], none)) _ ?_;refine eS fun K26 hn26 hr26 he26 => ?_
    refine eO fun K27 hk27 => ?_;refine tC 4 F1 ?_;refine tC 2 F1 ?_;refine tC 1 F1 ?_;refine tZ F1 ?_;refine Or.inr ⟨9, ⟨by decide, hbd⟩, ?_⟩
    refine hk27 _ ?_;refine hn26 (some ([8, 12, 13], none)) _ ?_;refine eS fun K28 hn28 hr28 he28 => ?_;refine eO fun K29 hk29 => ?_;refine tC 1 F1 ?_;refine tC 2 F1 ?_;refine tL F1 ?_;refine hk29 _ ?_;refine hn28 (some ([8, 9], none)) _ ?_
    first | refine finK_ret [0, 1, 2, 3, 4, 5, 6] 10 (by rfl) (Nat.le_of_ble_eq_true rfl) (by rfl) ?_ | refine finK_next [0, 1, 2, 3, 4, 5, 6] 10 (by rfl) (Nat.le_of_ble_eq_true rfl) (by rfl) ?_
    exact ⟨by rfl, by rfl, by rfl⟩
  · subst hop0
    have hp := hpl (by simp) (by simp)
    simp only at hp
    have x7 : ¬ p < 0 := by have := hp.1; omega
    have x8 : ¬ (M.mem.places.length : Int) ≤ p := by have := hp.2; omega
    have hw := hw0 (by simp) (by simp)
    have c0 := ok_mLoad M.mem t p true c hM.mem (by omega)
    have hz : (loadM M.mem t p true c).2.2 = 0 := by unfold loadM; rw [if_pos hw]
    rw [hz] at c0
    have eX : doM M t ⟨2, p, o, w⟩ c = (tickM ⟨(loadM M.mem t p true c).1, M.lines, M.steps, M.crashes⟩ t, ⟨(loadM M.mem t p true c).2.1, true⟩, 0) := by unfold doM; rw [if_pos h]; rfl
    rw [eX] at hX
    clear eX hz
    generalize loadM M.mem t p true c = R at c0 hX
    cases hX
    subst hf2 hN2
    unfold evFnO sc_l6do rv_l6do
    have F1 := And.intro @x1 (And.intro @x2 (And.intro @q2 (And.intro @q3 (And.intro @q4 (And.intro @qN (And.intro @hft (And.intro @x7 @x8)))))))
    refine eS fun K1 hn1 hr1 he1 => ?_;refine eO fun K2 hk2 => ?_;refine tL F1 ?_;refine hk2 _ ?_;refine hn1 (some ([0, 1, 3, 6, 8], none)) _ ?_;refine eS fun K3 hn3 hr3 he3 => ?_;refine eO fun K4 hk4 => ?_;refine tC 4 F1 ?_;refine tS 1 F1 ?_;refine Or.inl (Or.inl ⟨_, k0, ?_⟩);refine tL F1 ?_;refine hk4 _ ?_;refine hn3 (some ([0, 1, 3, 6, 8, 11], none)) _ ?_;refine eS fun K5 hn5 hr5 he5 => ?_;refine eB fun K6 hn6 hx6 hr6 he6 => ?_;refine eS fun K7 hn7 hr7 he7 => ?_;refine eO fun K8 hk8 => ?_;refine tC 2 F1 ?_;refine tC 6 F1 ?_;refine tC 1 F1 ?_;refine tL F1 ?_;refine hk8 _ ?_;refine hn7 (some ([0, 1, 3, 6, 8, 11, 22], none)) _ ?_
    refine eCf ?_;refine eS fun K9 hn9 hr9 he9 => ?_;refine eO fun K10 hk10 => ?_;refine tC 2 F1 ?_;refine tC 1 F1 ?_;refine tC 3 F1 ?_;refine tC 1 F1 ?_;refine tL F1 ?_;refine hk10 _ ?_;refine hn9 (some ([0, 1, 3, 6, 8, 11, 34], none)) _ ?_;refine eCf ?_;refine eS fun K11 hn11 hr11 he11 => ?_;refine eO fun K12 hk12 => ?_;refine tC 2 F1 ?_;refine tC 1 F1 ?_;refine tC 3 F1 ?_;refine tC 1 F1 ?_;refine tC 4 F1 ?_;refine tC 1 F1 ?_;refine tC 3 F1 ?_;refine tC 2 F1 ?_;refine tL F1 ?_;refine hk12 _ ?_;refine hn11 (some ([0, 1, 3, 6, 8, 44], none)) _ ?_;refine eCf ?_;refine hn6 _ ?_;refine hn5 (some ([0, 1, 3, 6, 8], none)) _ ?_
    refine eS fun K13 hn13 hr13 he13 => ?_;refine eO fun K14 hk14 => ?_;refine tZ F1 ?_;refine hk14 _ ?_;refine hn13 (some ([0, 1, 3, 6, 8, 12], none)) _ ?_;refine eS fun K15 hn15 hr15 he15 => ?_;refine eO fun K16 hk16 => ?_;refine tL F1 ?_;refine hk16 _ ?_;refine hn15 (some ([0, 1, 3, 6, 8, 12, 13], none)) _ ?_;refine eS fun K17 hn17 hr17 he17 => ?_;refine eS fun K18 hn18 hr18 he18 => ?_;refine eO fun K19 hk19 => ?_;refine tZ F1 ?_;refine hk19 _ ?_;refine hn18 (some ([0, 1, 3, 6, 8, 12, 13, 67], none)) _ ?_;refine eB fun K20 hn20 hx20 hr20 he20 => ?_;refine eS fun K21 hn21 hr21 he21 => ?_;refine eS fun K22 hn22 hr22 he22 => ?_
    refine eO fun K23 hk23 => ?_;refine tC 1 F1 ?_;refine tL F1 ?_;refine hk23 _ ?_;refine hn22 (some ([0, 1, 3, 6, 8, 12, 13, 67, 68], none)) _ ?_;refine eCf ?_;refine eO fun K24 hk24 => ?_;refine tC 1 F1 ?_;refine tL F1 ?_;refine hk24 _ ?_;refine hn21 (some ([0, 1, 3, 6, 8, 12, 13, 67, 68], none)) _ ?_;refine eCt ?_;refine eD [] (n := 17) fun K25 hk25 => ?_;refine sq0 ?_;refine fC 5 F1 ?_;refine fC 3 F1 ?_;refine fC 2 F1 ?_;refine fC 1 F1 ?_;refine fS 1 F1 ?_;refine fS 1 F1 ?_;refine ⟨_, c0, ?_⟩;refine fL F1 ?_;refine hk25 _ ?_;refine sr0 ?_;refine tC 3 F1 ?_;refine tC 2 F1 ?_;refine tL F1 ?_
    refine hn20 _ ?_;refine hn17 (some ([0, 1, 8, 12, 13], none)) _ ?_;refine eS fun K27 hn27 hr27 he27 => ?_;refine eO fun K28 hk28 => ?_;refine tC 4 F1 ?_;refine tC 2 F1 ?_;refine tC 1 F1 ?_;refine tZ F1 ?_;refine Or.inr ⟨9, ⟨by decide, hbd⟩, ?_⟩
    refine hk28 _ ?_;refine hn27 (some ([8, 12, 13], none)) _ ?_;refine eS fun K29 hn29 hr29 he29 => ?_;refine eO fun K30 hk30 => ?_;refine tC 1 F1 ?_;refine tC 2 F1 ?_;refine tL F1 ?_;refine hk30 _ ?_;refine hn29 (some ([8, 9], none)) _ ?_
    first | refine finK_ret [0, 1, 2, 3, 4, 5, 6] 10 (by rfl) (Nat.le_of_ble_eq_true rfl) (by rfl) ?_ | refine finK_next [0, 1, 2, 3, 4, 5, 6] 10 (by rfl) (Nat.le_of_ble_eq_true rfl) (by rfl) ?_
    exact ⟨by rfl, by rfl, by rfl⟩
  · subst hop0
    have hp := hpl (by simp) (by simp)
    simp only at hp
    have x7 : ¬ p < 0 := by have := hp.1; omega
    have x8 : ¬ (M.mem.places.length : Int) ≤ p := by have := hp.2; omega
    have hw := hw0 (by simp) (by simp)
    have c0 := ok_mStore M.mem t p w false hM.mem (by omega)
    have hz : (mstoreM M.mem t p w false).2 = 0 := by unfold mstoreM; rw [if_pos hw]
    rw [hz] at c0
    have c1 := ok_lStore M.lines p w hp.1 (by rw [hM.size]; exact hp.2) hM.lines.lines.many hM.lines.lines.most (fun y hy => Nat.le_trans (hM.lines.most y hy) (by omega))
    have eX : doM M t ⟨3, p, o, w⟩ c = (tickM ⟨(mstoreM M.mem t p w false).1, storeM M.lines p w, M.steps, M.crashes⟩ t, ⟨zWord, true⟩, 0) := by unfold doM; rw [if_pos h]; rfl
    rw [eX] at hX
    clear eX hz
    generalize mstoreM M.mem t p w false = R at c0 hX
    generalize storeM M.lines p w = R2 at c1 hX
    cases hX
    subst hf2 hN2
    unfold evFnO sc_l6do rv_l6do
    have F1 := And.intro @x1 (And.intro @x2 (And.intro @q2 (And.intro @q3 (And.intro @q4 (And.intro @qN (And.intro @hft (And.intro @x7 @x8)))))))
    refine eS fun K1 hn1 hr1 he1 => ?_;refine eO fun K2 hk2 => ?_;refine tL F1 ?_;refine hk2 _ ?_;refine hn1 (some ([0, 1, 3, 6, 8], none)) _ ?_;refine eS fun K3 hn3 hr3 he3 => ?_;refine eO fun K4 hk4 => ?_;refine tC 4 F1 ?_;refine tS 1 F1 ?_;refine Or.inl (Or.inl ⟨_, k0, ?_⟩);refine tL F1 ?_;refine hk4 _ ?_;refine hn3 (some ([0, 1, 3, 6, 8, 11], none)) _ ?_;refine eS fun K5 hn5 hr5 he5 => ?_;refine eB fun K6 hn6 hx6 hr6 he6 => ?_;refine eS fun K7 hn7 hr7 he7 => ?_;refine eO fun K8 hk8 => ?_;refine tC 2 F1 ?_;refine tC 6 F1 ?_;refine tC 1 F1 ?_;refine tL F1 ?_;refine hk8 _ ?_;refine hn7 (some ([0, 1, 3, 6, 8, 11, 22], none)) _ ?_
    refine eCf ?_;refine eS fun K9 hn9 hr9 he9 => ?_;refine eO fun K10 hk10 => ?_;refine tC 2 F1 ?_;refine tC 1 F1 ?_;refine tC 3 F1 ?_;refine tC 1 F1 ?_;refine tL F1 ?_;refine hk10 _ ?_;refine hn9 (some ([0, 1, 3, 6, 8, 11, 34], none)) _ ?_;refine eCf ?_;refine eS fun K11 hn11 hr11 he11 => ?_;refine eO fun K12 hk12 => ?_;refine tC 2 F1 ?_;refine tC 1 F1 ?_;refine tC 3 F1 ?_;refine tC 1 F1 ?_;refine tC 4 F1 ?_;refine tC 1 F1 ?_;refine tC 3 F1 ?_;refine tC 2 F1 ?_;refine tL F1 ?_;refine hk12 _ ?_;refine hn11 (some ([0, 1, 3, 6, 8, 44], none)) _ ?_;refine eCf ?_;refine hn6 _ ?_;refine hn5 (some ([0, 1, 3, 6, 8], none)) _ ?_
    refine eS fun K13 hn13 hr13 he13 => ?_;refine eO fun K14 hk14 => ?_;refine tZ F1 ?_;refine hk14 _ ?_;refine hn13 (some ([0, 1, 3, 6, 8, 12], none)) _ ?_;refine eS fun K15 hn15 hr15 he15 => ?_;refine eO fun K16 hk16 => ?_;refine tL F1 ?_;refine hk16 _ ?_;refine hn15 (some ([0, 1, 3, 6, 8, 12, 13], none)) _ ?_;refine eS fun K17 hn17 hr17 he17 => ?_;refine eS fun K18 hn18 hr18 he18 => ?_;refine eO fun K19 hk19 => ?_;refine tZ F1 ?_;refine hk19 _ ?_;refine hn18 (some ([0, 1, 3, 6, 8, 12, 13, 67], none)) _ ?_;refine eB fun K20 hn20 hx20 hr20 he20 => ?_;refine eS fun K21 hn21 hr21 he21 => ?_;refine eS fun K22 hn22 hr22 he22 => ?_
    refine eO fun K23 hk23 => ?_;refine tC 1 F1 ?_;refine tL F1 ?_;refine hk23 _ ?_;refine hn22 (some ([0, 1, 3, 6, 8, 12, 13, 67, 68], none)) _ ?_;refine eCf ?_;refine eO fun K24 hk24 => ?_;refine tC 1 F1 ?_;refine tL F1 ?_;refine hk24 _ ?_;refine hn21 (some ([0, 1, 3, 6, 8, 12, 13, 67, 68], none)) _ ?_;refine eCf ?_;refine eS fun K25 hn25 hr25 he25 => ?_;refine eS fun K26 hn26 hr26 he26 => ?_;refine eO fun K27 hk27 => ?_;refine tC 1 F1 ?_;refine tL F1 ?_;refine hk27 _ ?_;refine hn26 (some ([0, 1, 6, 8, 12, 13, 67, 91], none)) _ ?_;refine eCt ?_;refine hn25 (some ([0, 1, 6, 8, 12, 13, 67, 91], none)) _ ?_
    refine eCt ?_;refine eS fun K28 hn28 hr28 he28 => ?_;refine eD [] (n := 17) fun K29 hk29 => ?_;refine sq0 ?_;refine fC 5 F1 ?_;refine fC 3 F1 ?_;refine fC 2 F1 ?_;refine fC 2 F1 ?_;refine fC 1 F1 ?_;refine fS 1 F1 ?_;refine ⟨_, c0, ?_⟩;refine fL F1 ?_;refine hk29 _ ?_;refine sr0 ?_;refine tC 3 F1 ?_;refine tL F1 ?_;refine hn28 (some ([0, 1, 6, 8, 12, 13], none)) _ ?_;refine eD [] (n := 13) fun K31 hk31 => ?_;refine sq0 ?_;refine fC 5 F1 ?_;refine fC 2 F1 ?_;refine fC 2 F1 ?_;refine fS 1 F1 ?_;refine ⟨_, c1, ?_⟩;refine fL F1 ?_;refine hk31 _ ?_;refine sr0 ?_;refine tZ F1 ?_;refine hn20 _ ?_
    refine hn17 (some ([0, 1, 8, 12, 13], none)) _ ?_;refine eS fun K33 hn33 hr33 he33 => ?_;refine eO fun K34 hk34 => ?_;refine tC 4 F1 ?_;refine tC 2 F1 ?_;refine tC 1 F1 ?_;refine tZ F1 ?_;refine Or.inr ⟨9, ⟨by decide, hbd⟩, ?_⟩
    refine hk34 _ ?_;refine hn33 (some ([8, 12, 13], none)) _ ?_;refine eS fun K35 hn35 hr35 he35 => ?_;refine eO fun K36 hk36 => ?_;refine tC 1 F1 ?_;refine tC 2 F1 ?_;refine tL F1 ?_;refine hk36 _ ?_;refine hn35 (some ([8, 9], none)) _ ?_
    first | refine finK_ret [0, 1, 2, 3, 4, 5, 6] 10 (by rfl) (Nat.le_of_ble_eq_true rfl) (by rfl) ?_ | refine finK_next [0, 1, 2, 3, 4, 5, 6] 10 (by rfl) (Nat.le_of_ble_eq_true rfl) (by rfl) ?_
    exact ⟨by rfl, by rfl, by rfl⟩
  · subst hop0
    have hp := hpl (by simp) (by simp)
    simp only at hp
    have x7 : ¬ p < 0 := by have := hp.1; omega
    have x8 : ¬ (M.mem.places.length : Int) ≤ p := by have := hp.2; omega
    have hw := hw0 (by simp) (by simp)
    have c0 := ok_mStore M.mem t p w true hM.mem (by omega)
    have hz : (mstoreM M.mem t p w true).2 = 0 := by unfold mstoreM; rw [if_pos hw]
    rw [hz] at c0
    have c1 := ok_lStore M.lines p w hp.1 (by rw [hM.size]; exact hp.2) hM.lines.lines.many hM.lines.lines.most (fun y hy => Nat.le_trans (hM.lines.most y hy) (by omega))
    have eX : doM M t ⟨4, p, o, w⟩ c = (tickM ⟨(mstoreM M.mem t p w true).1, storeM M.lines p w, M.steps, M.crashes⟩ t, ⟨zWord, true⟩, 0) := by unfold doM; rw [if_pos h]; rfl
    rw [eX] at hX
    clear eX hz
    generalize mstoreM M.mem t p w true = R at c0 hX
    generalize storeM M.lines p w = R2 at c1 hX
    cases hX
    subst hf2 hN2
    unfold evFnO sc_l6do rv_l6do
    have F1 := And.intro @x1 (And.intro @x2 (And.intro @q2 (And.intro @q3 (And.intro @q4 (And.intro @qN (And.intro @hft (And.intro @x7 @x8)))))))
    refine eS fun K1 hn1 hr1 he1 => ?_;refine eO fun K2 hk2 => ?_;refine tL F1 ?_;refine hk2 _ ?_;refine hn1 (some ([0, 1, 3, 6, 8], none)) _ ?_;refine eS fun K3 hn3 hr3 he3 => ?_;refine eO fun K4 hk4 => ?_;refine tC 4 F1 ?_;refine tS 1 F1 ?_;refine Or.inl (Or.inl ⟨_, k0, ?_⟩);refine tL F1 ?_;refine hk4 _ ?_;refine hn3 (some ([0, 1, 3, 6, 8, 11], none)) _ ?_;refine eS fun K5 hn5 hr5 he5 => ?_;refine eB fun K6 hn6 hx6 hr6 he6 => ?_;refine eS fun K7 hn7 hr7 he7 => ?_;refine eO fun K8 hk8 => ?_;refine tC 2 F1 ?_;refine tC 6 F1 ?_;refine tC 1 F1 ?_;refine tL F1 ?_;refine hk8 _ ?_;refine hn7 (some ([0, 1, 3, 6, 8, 11, 22], none)) _ ?_
    refine eCf ?_;refine eS fun K9 hn9 hr9 he9 => ?_;refine eO fun K10 hk10 => ?_;refine tC 2 F1 ?_;refine tC 1 F1 ?_;refine tC 3 F1 ?_;refine tC 1 F1 ?_;refine tL F1 ?_;refine hk10 _ ?_;refine hn9 (some ([0, 1, 3, 6, 8, 11, 34], none)) _ ?_;refine eCf ?_;refine eS fun K11 hn11 hr11 he11 => ?_;refine eO fun K12 hk12 => ?_;refine tC 2 F1 ?_;refine tC 1 F1 ?_;refine tC 3 F1 ?_;refine tC 1 F1 ?_;refine tC 4 F1 ?_;refine tC 1 F1 ?_;refine tC 3 F1 ?_;refine tC 2 F1 ?_;refine tL F1 ?_;refine hk12 _ ?_;refine hn11 (some ([0, 1, 3, 6, 8, 44], none)) _ ?_;refine eCf ?_;refine hn6 _ ?_;refine hn5 (some ([0, 1, 3, 6, 8], none)) _ ?_
    refine eS fun K13 hn13 hr13 he13 => ?_;refine eO fun K14 hk14 => ?_;refine tZ F1 ?_;refine hk14 _ ?_;refine hn13 (some ([0, 1, 3, 6, 8, 12], none)) _ ?_;refine eS fun K15 hn15 hr15 he15 => ?_;refine eO fun K16 hk16 => ?_;refine tL F1 ?_;refine hk16 _ ?_;refine hn15 (some ([0, 1, 3, 6, 8, 12, 13], none)) _ ?_;refine eS fun K17 hn17 hr17 he17 => ?_;refine eS fun K18 hn18 hr18 he18 => ?_;refine eO fun K19 hk19 => ?_;refine tZ F1 ?_;refine hk19 _ ?_;refine hn18 (some ([0, 1, 3, 6, 8, 12, 13, 67], none)) _ ?_;refine eB fun K20 hn20 hx20 hr20 he20 => ?_;refine eS fun K21 hn21 hr21 he21 => ?_;refine eS fun K22 hn22 hr22 he22 => ?_
    refine eO fun K23 hk23 => ?_;refine tC 1 F1 ?_;refine tL F1 ?_;refine hk23 _ ?_;refine hn22 (some ([0, 1, 3, 6, 8, 12, 13, 67, 68], none)) _ ?_;refine eCf ?_;refine eO fun K24 hk24 => ?_;refine tC 1 F1 ?_;refine tL F1 ?_;refine hk24 _ ?_;refine hn21 (some ([0, 1, 3, 6, 8, 12, 13, 67, 68], none)) _ ?_;refine eCf ?_;refine eS fun K25 hn25 hr25 he25 => ?_;refine eS fun K26 hn26 hr26 he26 => ?_;refine eO fun K27 hk27 => ?_;refine tC 1 F1 ?_;refine tL F1 ?_;refine hk27 _ ?_;refine hn26 (some ([0, 1, 6, 8, 12, 13, 67, 91], none)) _ ?_;refine eCf ?_;refine eO fun K28 hk28 => ?_;refine tC 1 F1 ?_;refine tL F1 ?_
    refine hk28 _ ?_;refine hn25 (some ([0, 1, 6, 8, 12, 13, 67, 91], none)) _ ?_;refine eCt ?_;refine eS fun K29 hn29 hr29 he29 => ?_;refine eD [] (n := 17) fun K30 hk30 => ?_;refine sq0 ?_;refine fC 5 F1 ?_;refine fC 3 F1 ?_;refine fC 2 F1 ?_;refine fC 2 F1 ?_;refine fC 1 F1 ?_;refine fS 1 F1 ?_;refine ⟨_, c0, ?_⟩;refine fL F1 ?_;refine hk30 _ ?_;refine sr0 ?_;refine tC 3 F1 ?_;refine tL F1 ?_;refine hn29 (some ([0, 1, 6, 8, 12, 13], none)) _ ?_;refine eD [] (n := 13) fun K32 hk32 => ?_;refine sq0 ?_;refine fC 5 F1 ?_;refine fC 2 F1 ?_;refine fC 2 F1 ?_;refine fS 1 F1 ?_;refine ⟨_, c1, ?_⟩;refine fL F1 ?_
    refine hk32 _ ?_;refine sr0 ?_;refine tZ F1 ?_;refine hn20 _ ?_;refine hn17 (some ([0, 1, 8, 12, 13], none)) _ ?_;refine eS fun K34 hn34 hr34 he34 => ?_;refine eO fun K35 hk35 => ?_;refine tC 4 F1 ?_;refine tC 2 F1 ?_;refine tC 1 F1 ?_;refine tZ F1 ?_;refine Or.inr ⟨9, ⟨by decide, hbd⟩, ?_⟩
    refine hk35 _ ?_;refine hn34 (some ([8, 12, 13], none)) _ ?_;refine eS fun K36 hn36 hr36 he36 => ?_;refine eO fun K37 hk37 => ?_;refine tC 1 F1 ?_;refine tC 2 F1 ?_;refine tL F1 ?_;refine hk37 _ ?_;refine hn36 (some ([8, 9], none)) _ ?_
    first | refine finK_ret [0, 1, 2, 3, 4, 5, 6] 10 (by rfl) (Nat.le_of_ble_eq_true rfl) (by rfl) ?_ | refine finK_next [0, 1, 2, 3, 4, 5, 6] 10 (by rfl) (Nat.le_of_ble_eq_true rfl) (by rfl) ?_
    exact ⟨by rfl, by rfl, by rfl⟩
  · subst hop0
    have hp := hpl (by simp) (by simp)
    simp only at hp
    have x7 : ¬ p < 0 := by have := hp.1; omega
    have x8 : ¬ (M.mem.places.length : Int) ≤ p := by have := hp.2; omega
    have hw := hw0 (by simp) (by simp)
    have c0 := ok_mLook M.mem t p hM.mem (by omega)
    have hz : (look1M M.mem t p).2.2 = 0 := by unfold look1M; rw [if_pos hw]
    rw [hz] at c0
    have eX : doM M t ⟨5, p, o, w⟩ c = (tickM ⟨(look1M M.mem t p).1, M.lines, M.steps, M.crashes⟩ t, ⟨(look1M M.mem t p).2.1, true⟩, 0) := by unfold doM; rw [if_pos h]; rfl
    rw [eX] at hX
    clear eX hz
    generalize look1M M.mem t p = R at c0 hX
    cases hX
    subst hf2 hN2
    unfold evFnO sc_l6do rv_l6do
    have F1 := And.intro @x1 (And.intro @x2 (And.intro @q2 (And.intro @q3 (And.intro @q4 (And.intro @qN (And.intro @hft (And.intro @x7 @x8)))))))
    refine eS fun K1 hn1 hr1 he1 => ?_;refine eO fun K2 hk2 => ?_;refine tL F1 ?_;refine hk2 _ ?_;refine hn1 (some ([0, 1, 3, 6, 8], none)) _ ?_;refine eS fun K3 hn3 hr3 he3 => ?_;refine eO fun K4 hk4 => ?_;refine tC 4 F1 ?_;refine tS 1 F1 ?_;refine Or.inl (Or.inl ⟨_, k0, ?_⟩);refine tL F1 ?_;refine hk4 _ ?_;refine hn3 (some ([0, 1, 3, 6, 8, 11], none)) _ ?_;refine eS fun K5 hn5 hr5 he5 => ?_;refine eB fun K6 hn6 hx6 hr6 he6 => ?_;refine eS fun K7 hn7 hr7 he7 => ?_;refine eO fun K8 hk8 => ?_;refine tC 2 F1 ?_;refine tC 6 F1 ?_;refine tC 1 F1 ?_;refine tL F1 ?_;refine hk8 _ ?_;refine hn7 (some ([0, 1, 3, 6, 8, 11, 22], none)) _ ?_
    refine eCf ?_;refine eS fun K9 hn9 hr9 he9 => ?_;refine eO fun K10 hk10 => ?_;refine tC 2 F1 ?_;refine tC 1 F1 ?_;refine tC 3 F1 ?_;refine tC 1 F1 ?_;refine tL F1 ?_;refine hk10 _ ?_;refine hn9 (some ([0, 1, 3, 6, 8, 11, 34], none)) _ ?_;refine eCf ?_;refine eS fun K11 hn11 hr11 he11 => ?_;refine eO fun K12 hk12 => ?_;refine tC 2 F1 ?_;refine tC 1 F1 ?_;refine tC 3 F1 ?_;refine tC 1 F1 ?_;refine tC 4 F1 ?_;refine tC 1 F1 ?_;refine tC 3 F1 ?_;refine tC 2 F1 ?_;refine tL F1 ?_;refine hk12 _ ?_;refine hn11 (some ([0, 1, 3, 6, 8, 44], none)) _ ?_;refine eCf ?_;refine hn6 _ ?_;refine hn5 (some ([0, 1, 3, 6, 8], none)) _ ?_
    refine eS fun K13 hn13 hr13 he13 => ?_;refine eO fun K14 hk14 => ?_;refine tZ F1 ?_;refine hk14 _ ?_;refine hn13 (some ([0, 1, 3, 6, 8, 12], none)) _ ?_;refine eS fun K15 hn15 hr15 he15 => ?_;refine eO fun K16 hk16 => ?_;refine tL F1 ?_;refine hk16 _ ?_;refine hn15 (some ([0, 1, 3, 6, 8, 12, 13], none)) _ ?_;refine eS fun K17 hn17 hr17 he17 => ?_;refine eS fun K18 hn18 hr18 he18 => ?_;refine eO fun K19 hk19 => ?_;refine tZ F1 ?_;refine hk19 _ ?_;refine hn18 (some ([0, 1, 3, 6, 8, 12, 13, 67], none)) _ ?_;refine eB fun K20 hn20 hx20 hr20 he20 => ?_;refine eS fun K21 hn21 hr21 he21 => ?_;refine eS fun K22 hn22 hr22 he22 => ?_
    refine eO fun K23 hk23 => ?_;refine tC 1 F1 ?_;refine tL F1 ?_;refine hk23 _ ?_;refine hn22 (some ([0, 1, 3, 6, 8, 12, 13, 67, 68], none)) _ ?_;refine eCf ?_;refine eO fun K24 hk24 => ?_;refine tC 1 F1 ?_;refine tL F1 ?_;refine hk24 _ ?_;refine hn21 (some ([0, 1, 3, 6, 8, 12, 13, 67, 68], none)) _ ?_;refine eCf ?_;refine eS fun K25 hn25 hr25 he25 => ?_;refine eS fun K26 hn26 hr26 he26 => ?_;refine eO fun K27 hk27 => ?_;refine tC 1 F1 ?_;refine tL F1 ?_;refine hk27 _ ?_;refine hn26 (some ([0, 1, 6, 8, 12, 13, 67, 91], none)) _ ?_;refine eCf ?_;refine eO fun K28 hk28 => ?_;refine tC 1 F1 ?_;refine tL F1 ?_
    refine hk28 _ ?_;refine hn25 (some ([0, 1, 6, 8, 12, 13, 67, 91], none)) _ ?_;refine eCf ?_;refine eS fun K29 hn29 hr29 he29 => ?_;refine eO fun K30 hk30 => ?_;refine tC 1 F1 ?_;refine tL F1 ?_;refine hk30 _ ?_;refine hn29 (some ([0, 1, 6, 8, 12, 13, 67, 128], none)) _ ?_;refine eCt ?_;refine eD [] (n := 13) fun K31 hk31 => ?_;refine sq0 ?_;refine fC 5 F1 ?_;refine fC 3 F1 ?_;refine fS 1 F1 ?_;refine ⟨_, c0, ?_⟩;refine fL F1 ?_;refine hk31 _ ?_;refine sr0 ?_;refine tC 3 F1 ?_;refine tC 2 F1 ?_;refine tL F1 ?_;refine hn20 _ ?_;refine hn17 (some ([0, 1, 8, 12, 13], none)) _ ?_;refine eS fun K33 hn33 hr33 he33 => ?_
    refine eO fun K34 hk34 => ?_;refine tC 4 F1 ?_;refine tC 2 F1 ?_;refine tC 1 F1 ?_;refine tZ F1 ?_;refine Or.inr ⟨9, ⟨by decide, hbd⟩, ?_⟩
    refine hk34 _ ?_;refine hn33 (some ([8, 12, 13], none)) _ ?_;refine eS fun K35 hn35 hr35 he35 => ?_;refine eO fun K36 hk36 => ?_;refine tC 1 F1 ?_;refine tC 2 F1 ?_;refine tL F1 ?_;refine hk36 _ ?_;refine hn35 (some ([8, 9], none)) _ ?_
    first | refine finK_ret [0, 1, 2, 3, 4, 5, 6] 10 (by rfl) (Nat.le_of_ble_eq_true rfl) (by rfl) ?_ | refine finK_next [0, 1, 2, 3, 4, 5, 6] 10 (by rfl) (Nat.le_of_ble_eq_true rfl) (by rfl) ?_
    exact ⟨by rfl, by rfl, by rfl⟩
  · subst hop0
    have hp := hpl (by simp) (by simp)
    simp only at hp
    have x7 : ¬ p < 0 := by have := hp.1; omega
    have x8 : ¬ (M.mem.places.length : Int) ≤ p := by have := hp.2; omega
    have hw := hw0 (by simp) (by simp)
    have c0 := ok_mSwap M.mem t p o w hM.mem (by omega)
    have hz : (mswapM M.mem t p o w).2.2.2 = 0 := by unfold mswapM; split; rfl; (show (look1M M.mem t p).2.2 = 0; unfold look1M; rw [if_pos hw])
    rw [hz] at c0
    have c1 := ok_lStore M.lines p w hp.1 (by rw [hM.size]; exact hp.2) hM.lines.lines.many hM.lines.lines.most (fun y hy => Nat.le_trans (hM.lines.most y hy) (by omega))
    cases hsw : (mswapM M.mem t p o w).2.2.1
    · rw [hsw] at c0
      have eX : doM M t ⟨6, p, o, w⟩ c = (tickM ⟨(mswapM M.mem t p o w).1, M.lines, M.steps, M.crashes⟩ t, ⟨(mswapM M.mem t p o w).2.1, false⟩, 0) := by
        unfold doM
        rw [if_pos h]
        show (tickM (writeM M t ⟨6, p, o, w⟩).1 t, (writeM M t ⟨6, p, o, w⟩).2, (0 : Int)) = _
        unfold writeM
        rw [if_pos rfl]
        simp only [hsw]
        rfl
      rw [eX] at hX
      clear eX hz hsw
      generalize mswapM M.mem t p o w = R at c0 hX
      cases hX
      subst hf2 hN2
      unfold evFnO sc_l6do rv_l6do
      have F1 := And.intro @x1 (And.intro @x2 (And.intro @q2 (And.intro @q3 (And.intro @q4 (And.intro @qN (And.intro @hft (And.intro @x7 @x8)))))))
      refine eS fun K1 hn1 hr1 he1 => ?_;refine eO fun K2 hk2 => ?_;refine tL F1 ?_;refine hk2 _ ?_;refine hn1 (some ([0, 1, 3, 6, 8], none)) _ ?_;refine eS fun K3 hn3 hr3 he3 => ?_;refine eO fun K4 hk4 => ?_;refine tC 4 F1 ?_;refine tS 1 F1 ?_;refine Or.inl (Or.inl ⟨_, k0, ?_⟩);refine tL F1 ?_;refine hk4 _ ?_;refine hn3 (some ([0, 1, 3, 6, 8, 11], none)) _ ?_;refine eS fun K5 hn5 hr5 he5 => ?_;refine eB fun K6 hn6 hx6 hr6 he6 => ?_;refine eS fun K7 hn7 hr7 he7 => ?_;refine eO fun K8 hk8 => ?_;refine tC 2 F1 ?_;refine tC 6 F1 ?_;refine tC 1 F1 ?_;refine tL F1 ?_;refine hk8 _ ?_;refine hn7 (some ([0, 1, 3, 6, 8, 11, 22], none)) _ ?_
      refine eCf ?_;refine eS fun K9 hn9 hr9 he9 => ?_;refine eO fun K10 hk10 => ?_;refine tC 2 F1 ?_;refine tC 1 F1 ?_;refine tC 3 F1 ?_;refine tC 1 F1 ?_;refine tL F1 ?_;refine hk10 _ ?_;refine hn9 (some ([0, 1, 3, 6, 8, 11, 34], none)) _ ?_;refine eCf ?_;refine eS fun K11 hn11 hr11 he11 => ?_;refine eO fun K12 hk12 => ?_;refine tC 2 F1 ?_;refine tC 1 F1 ?_;refine tC 3 F1 ?_;refine tC 1 F1 ?_;refine tC 4 F1 ?_;refine tC 1 F1 ?_;refine tC 3 F1 ?_;refine tC 2 F1 ?_;refine tL F1 ?_;refine hk12 _ ?_;refine hn11 (some ([0, 1, 3, 6, 8, 44], none)) _ ?_;refine eCf ?_;refine hn6 _ ?_;refine hn5 (some ([0, 1, 3, 6, 8], none)) _ ?_
      refine eS fun K13 hn13 hr13 he13 => ?_;refine eO fun K14 hk14 => ?_;refine tZ F1 ?_;refine hk14 _ ?_;refine hn13 (some ([0, 1, 3, 6, 8, 12], none)) _ ?_;refine eS fun K15 hn15 hr15 he15 => ?_;refine eO fun K16 hk16 => ?_;refine tL F1 ?_;refine hk16 _ ?_;refine hn15 (some ([0, 1, 3, 6, 8, 12, 13], none)) _ ?_;refine eS fun K17 hn17 hr17 he17 => ?_;refine eS fun K18 hn18 hr18 he18 => ?_;refine eO fun K19 hk19 => ?_;refine tZ F1 ?_;refine hk19 _ ?_;refine hn18 (some ([0, 1, 3, 6, 8, 12, 13, 67], none)) _ ?_;refine eB fun K20 hn20 hx20 hr20 he20 => ?_;refine eS fun K21 hn21 hr21 he21 => ?_;refine eS fun K22 hn22 hr22 he22 => ?_
      refine eO fun K23 hk23 => ?_;refine tC 1 F1 ?_;refine tL F1 ?_;refine hk23 _ ?_;refine hn22 (some ([0, 1, 3, 6, 8, 12, 13, 67, 68], none)) _ ?_;refine eCf ?_;refine eO fun K24 hk24 => ?_;refine tC 1 F1 ?_;refine tL F1 ?_;refine hk24 _ ?_;refine hn21 (some ([0, 1, 3, 6, 8, 12, 13, 67, 68], none)) _ ?_;refine eCf ?_;refine eS fun K25 hn25 hr25 he25 => ?_;refine eS fun K26 hn26 hr26 he26 => ?_;refine eO fun K27 hk27 => ?_;refine tC 1 F1 ?_;refine tL F1 ?_;refine hk27 _ ?_;refine hn26 (some ([0, 1, 6, 8, 12, 13, 67, 91], none)) _ ?_;refine eCf ?_;refine eO fun K28 hk28 => ?_;refine tC 1 F1 ?_
      refine tL F1 ?_;refine hk28 _ ?_;refine hn25 (some ([0, 1, 6, 8, 12, 13, 67, 91], none)) _ ?_;refine eCf ?_;refine eS fun K29 hn29 hr29 he29 => ?_;refine eO fun K30 hk30 => ?_;refine tC 1 F1 ?_;refine tL F1 ?_;refine hk30 _ ?_;refine hn29 (some ([0, 1, 6, 8, 12, 13, 67, 128], none)) _ ?_;refine eCf ?_;refine eS fun K31 hn31 hr31 he31 => ?_;refine eO fun K32 hk32 => ?_;refine tC 1 F1 ?_;refine tL F1 ?_;refine hk32 _ ?_;refine hn31 (some ([0, 1, 6, 8, 12, 13, 67, 146], none)) _ ?_;refine eCt ?_;refine eS fun K33 hn33 hr33 he33 => ?_;refine eD [] (n := 18) fun K34 hk34 => ?_;refine sq0 ?_;refine fC 5 F1 ?_
      refine fC 3 F1 ?_;refine fC 2 F1 ?_;refine fC 2 F1 ?_;refine fS 1 F1 ?_;refine ⟨_, c0, ?_⟩;refine fL F1 ?_;refine hk34 _ ?_;refine sr0 ?_;refine tC 3 F1 ?_;refine tC 2 F1 ?_;refine tC 2 F1 ?_;refine tL F1 ?_;refine hn33 (some ([0, 1, 6, 8, 12, 13], none)) _ ?_;refine eS fun K36 hn36 hr36 he36 => ?_;refine eO fun K37 hk37 => ?_;refine tZ F1 ?_;refine hk37 _ ?_;refine hn36 (some ([0, 1, 6, 8, 12, 13, 171], none)) _ ?_;refine eCf ?_;refine hn20 _ ?_;refine hn17 (some ([0, 1, 8, 12, 13], none)) _ ?_;refine eS fun K38 hn38 hr38 he38 => ?_;refine eO fun K39 hk39 => ?_;refine tC 4 F1 ?_;refine tC 2 F1 ?_
      refine tC 1 F1 ?_;refine tZ F1 ?_;refine Or.inr ⟨9, ⟨by decide, hbd⟩, ?_⟩
      refine hk39 _ ?_;refine hn38 (some ([8, 12, 13], none)) _ ?_;refine eS fun K40 hn40 hr40 he40 => ?_;refine eO fun K41 hk41 => ?_;refine tC 1 F1 ?_;refine tC 2 F1 ?_;refine tL F1 ?_;refine hk41 _ ?_;refine hn40 (some ([8, 9], none)) _ ?_
      first | refine finK_ret [0, 1, 2, 3, 4, 5, 6] 10 (by rfl) (Nat.le_of_ble_eq_true rfl) (by rfl) ?_ | refine finK_next [0, 1, 2, 3, 4, 5, 6] 10 (by rfl) (Nat.le_of_ble_eq_true rfl) (by rfl) ?_
      exact ⟨by rfl, by rfl, by rfl⟩
    · rw [hsw] at c0
      have eX : doM M t ⟨6, p, o, w⟩ c = (tickM ⟨(mswapM M.mem t p o w).1, storeM M.lines p w, M.steps, M.crashes⟩ t, ⟨(mswapM M.mem t p o w).2.1, true⟩, 0) := by
        unfold doM
        rw [if_pos h]
        show (tickM (writeM M t ⟨6, p, o, w⟩).1 t, (writeM M t ⟨6, p, o, w⟩).2, (0 : Int)) = _
        unfold writeM
        rw [if_pos rfl]
        simp only [hsw]
        rfl
      rw [eX] at hX
      clear eX hz hsw
      generalize mswapM M.mem t p o w = R at c0 hX
      generalize storeM M.lines p w = R2 at c1 hX
      cases hX
      subst hf2 hN2
      unfold evFnO sc_l6do rv_l6do
      have F1 := And.intro @x1 (And.intro @x2 (And.intro @q2 (And.intro @q3 (And.intro @q4 (And.intro @qN (And.intro @hft (And.intro @x7 @x8)))))))
      refine eS fun K1 hn1 hr1 he1 => ?_;refine eO fun K2 hk2 => ?_;refine tL F1 ?_;refine hk2 _ ?_;refine hn1 (some ([0, 1, 3, 6, 8], none)) _ ?_;refine eS fun K3 hn3 hr3 he3 => ?_;refine eO fun K4 hk4 => ?_;refine tC 4 F1 ?_;refine tS 1 F1 ?_;refine Or.inl (Or.inl ⟨_, k0, ?_⟩);refine tL F1 ?_;refine hk4 _ ?_;refine hn3 (some ([0, 1, 3, 6, 8, 11], none)) _ ?_;refine eS fun K5 hn5 hr5 he5 => ?_;refine eB fun K6 hn6 hx6 hr6 he6 => ?_;refine eS fun K7 hn7 hr7 he7 => ?_;refine eO fun K8 hk8 => ?_;refine tC 2 F1 ?_;refine tC 6 F1 ?_;refine tC 1 F1 ?_;refine tL F1 ?_;refine hk8 _ ?_;refine hn7 (some ([0, 1, 3, 6, 8, 11, 22], none)) _ ?_
      refine eCf ?_;refine eS fun K9 hn9 hr9 he9 => ?_;refine eO fun K10 hk10 => ?_;refine tC 2 F1 ?_;refine tC 1 F1 ?_;refine tC 3 F1 ?_;refine tC 1 F1 ?_;refine tL F1 ?_;refine hk10 _ ?_;refine hn9 (some ([0, 1, 3, 6, 8, 11, 34], none)) _ ?_;refine eCf ?_;refine eS fun K11 hn11 hr11 he11 => ?_;refine eO fun K12 hk12 => ?_;refine tC 2 F1 ?_;refine tC 1 F1 ?_;refine tC 3 F1 ?_;refine tC 1 F1 ?_;refine tC 4 F1 ?_;refine tC 1 F1 ?_;refine tC 3 F1 ?_;refine tC 2 F1 ?_;refine tL F1 ?_;refine hk12 _ ?_;refine hn11 (some ([0, 1, 3, 6, 8, 44], none)) _ ?_;refine eCf ?_;refine hn6 _ ?_;refine hn5 (some ([0, 1, 3, 6, 8], none)) _ ?_
      refine eS fun K13 hn13 hr13 he13 => ?_;refine eO fun K14 hk14 => ?_;refine tZ F1 ?_;refine hk14 _ ?_;refine hn13 (some ([0, 1, 3, 6, 8, 12], none)) _ ?_;refine eS fun K15 hn15 hr15 he15 => ?_;refine eO fun K16 hk16 => ?_;refine tL F1 ?_;refine hk16 _ ?_;refine hn15 (some ([0, 1, 3, 6, 8, 12, 13], none)) _ ?_;refine eS fun K17 hn17 hr17 he17 => ?_;refine eS fun K18 hn18 hr18 he18 => ?_;refine eO fun K19 hk19 => ?_;refine tZ F1 ?_;refine hk19 _ ?_;refine hn18 (some ([0, 1, 3, 6, 8, 12, 13, 67], none)) _ ?_;refine eB fun K20 hn20 hx20 hr20 he20 => ?_;refine eS fun K21 hn21 hr21 he21 => ?_;refine eS fun K22 hn22 hr22 he22 => ?_
      refine eO fun K23 hk23 => ?_;refine tC 1 F1 ?_;refine tL F1 ?_;refine hk23 _ ?_;refine hn22 (some ([0, 1, 3, 6, 8, 12, 13, 67, 68], none)) _ ?_;refine eCf ?_;refine eO fun K24 hk24 => ?_;refine tC 1 F1 ?_;refine tL F1 ?_;refine hk24 _ ?_;refine hn21 (some ([0, 1, 3, 6, 8, 12, 13, 67, 68], none)) _ ?_;refine eCf ?_;refine eS fun K25 hn25 hr25 he25 => ?_;refine eS fun K26 hn26 hr26 he26 => ?_;refine eO fun K27 hk27 => ?_;refine tC 1 F1 ?_;refine tL F1 ?_;refine hk27 _ ?_;refine hn26 (some ([0, 1, 6, 8, 12, 13, 67, 91], none)) _ ?_;refine eCf ?_;refine eO fun K28 hk28 => ?_;refine tC 1 F1 ?_
      refine tL F1 ?_;refine hk28 _ ?_;refine hn25 (some ([0, 1, 6, 8, 12, 13, 67, 91], none)) _ ?_;refine eCf ?_;refine eS fun K29 hn29 hr29 he29 => ?_;refine eO fun K30 hk30 => ?_;refine tC 1 F1 ?_;refine tL F1 ?_;refine hk30 _ ?_;refine hn29 (some ([0, 1, 6, 8, 12, 13, 67, 128], none)) _ ?_;refine eCf ?_;refine eS fun K31 hn31 hr31 he31 => ?_;refine eO fun K32 hk32 => ?_;refine tC 1 F1 ?_;refine tL F1 ?_;refine hk32 _ ?_;refine hn31 (some ([0, 1, 6, 8, 12, 13, 67, 146], none)) _ ?_;refine eCt ?_;refine eS fun K33 hn33 hr33 he33 => ?_;refine eD [] (n := 18) fun K34 hk34 => ?_;refine sq0 ?_;refine fC 5 F1 ?_
      refine fC 3 F1 ?_;refine fC 2 F1 ?_;refine fC 2 F1 ?_;refine fS 1 F1 ?_;refine ⟨_, c0, ?_⟩;refine fL F1 ?_;refine hk34 _ ?_;refine sr0 ?_;refine tC 3 F1 ?_;refine tC 2 F1 ?_;refine tC 2 F1 ?_;refine tL F1 ?_;refine hn33 (some ([0, 1, 6, 8, 12, 13], none)) _ ?_;refine eS fun K36 hn36 hr36 he36 => ?_;refine eO fun K37 hk37 => ?_;refine tZ F1 ?_;refine hk37 _ ?_;refine hn36 (some ([0, 1, 6, 8, 12, 13, 171], none)) _ ?_;refine eCt ?_;refine eD [] (n := 13) fun K38 hk38 => ?_;refine sq0 ?_;refine fC 5 F1 ?_;refine fC 2 F1 ?_;refine fC 2 F1 ?_;refine fS 1 F1 ?_;refine ⟨_, c1, ?_⟩;refine fL F1 ?_
      refine hk38 _ ?_;refine sr0 ?_;refine tZ F1 ?_;refine hn20 _ ?_;refine hn17 (some ([0, 1, 8, 12, 13], none)) _ ?_;refine eS fun K40 hn40 hr40 he40 => ?_;refine eO fun K41 hk41 => ?_;refine tC 4 F1 ?_;refine tC 2 F1 ?_;refine tC 1 F1 ?_;refine tZ F1 ?_;refine Or.inr ⟨9, ⟨by decide, hbd⟩, ?_⟩
      refine hk41 _ ?_;refine hn40 (some ([8, 12, 13], none)) _ ?_;refine eS fun K42 hn42 hr42 he42 => ?_;refine eO fun K43 hk43 => ?_;refine tC 1 F1 ?_;refine tC 2 F1 ?_;refine tL F1 ?_;refine hk43 _ ?_;refine hn42 (some ([8, 9], none)) _ ?_
      first | refine finK_ret [0, 1, 2, 3, 4, 5, 6] 10 (by rfl) (Nat.le_of_ble_eq_true rfl) (by rfl) ?_ | refine finK_next [0, 1, 2, 3, 4, 5, 6] 10 (by rfl) (Nat.le_of_ble_eq_true rfl) (by rfl) ?_
      exact ⟨by rfl, by rfl, by rfl⟩
  · subst hop0
    have hp := hpl (by simp) (by simp)
    simp only at hp
    have x7 : ¬ p < 0 := by have := hp.1; omega
    have x8 : ¬ (M.mem.places.length : Int) ≤ p := by have := hp.2; omega
    have hw := hw0 (by simp) (by simp)
    have c0 := ok_lFlush M.lines t p hM.lines.lines hM.lines.asks ⟨ht.1, by have := ht.2; omega⟩ ⟨hp.1, by rw [hM.size]; exact hp.2⟩
    have eX : doM M t ⟨7, p, o, w⟩ c = (tickM ⟨M.mem, flushM M.lines t p, M.steps, M.crashes⟩ t, ⟨zWord, true⟩, 0) := by unfold doM; rw [if_pos h]; rfl
    rw [eX] at hX
    clear eX
    generalize flushM M.lines t p = R at c0 hX
    cases hX
    subst hf2 hN2
    unfold evFnO sc_l6do rv_l6do
    have F1 := And.intro @x1 (And.intro @x2 (And.intro @q2 (And.intro @q3 (And.intro @q4 (And.intro @qN (And.intro @hft (And.intro @x7 @x8)))))))
    refine eS fun K1 hn1 hr1 he1 => ?_;refine eO fun K2 hk2 => ?_;refine tL F1 ?_;refine hk2 _ ?_;refine hn1 (some ([0, 1, 3, 6, 8], none)) _ ?_;refine eS fun K3 hn3 hr3 he3 => ?_;refine eO fun K4 hk4 => ?_;refine tC 4 F1 ?_;refine tS 1 F1 ?_;refine Or.inl (Or.inl ⟨_, k0, ?_⟩);refine tL F1 ?_;refine hk4 _ ?_;refine hn3 (some ([0, 1, 3, 6, 8, 11], none)) _ ?_;refine eS fun K5 hn5 hr5 he5 => ?_;refine eB fun K6 hn6 hx6 hr6 he6 => ?_;refine eS fun K7 hn7 hr7 he7 => ?_;refine eO fun K8 hk8 => ?_;refine tC 2 F1 ?_;refine tC 6 F1 ?_;refine tC 1 F1 ?_;refine tL F1 ?_;refine hk8 _ ?_;refine hn7 (some ([0, 1, 3, 6, 8, 11, 22], none)) _ ?_
    refine eCf ?_;refine eS fun K9 hn9 hr9 he9 => ?_;refine eO fun K10 hk10 => ?_;refine tC 2 F1 ?_;refine tC 1 F1 ?_;refine tC 3 F1 ?_;refine tC 1 F1 ?_;refine tL F1 ?_;refine hk10 _ ?_;refine hn9 (some ([0, 1, 3, 6, 8, 11, 34], none)) _ ?_;refine eCf ?_;refine eS fun K11 hn11 hr11 he11 => ?_;refine eO fun K12 hk12 => ?_;refine tC 2 F1 ?_;refine tC 1 F1 ?_;refine tC 3 F1 ?_;refine tC 1 F1 ?_;refine tC 4 F1 ?_;refine tC 1 F1 ?_;refine tC 3 F1 ?_;refine tC 2 F1 ?_;refine tL F1 ?_;refine hk12 _ ?_;refine hn11 (some ([0, 1, 3, 6, 8, 44], none)) _ ?_;refine eCf ?_;refine hn6 _ ?_;refine hn5 (some ([0, 1, 3, 6, 8], none)) _ ?_
    refine eS fun K13 hn13 hr13 he13 => ?_;refine eO fun K14 hk14 => ?_;refine tZ F1 ?_;refine hk14 _ ?_;refine hn13 (some ([0, 1, 3, 6, 8, 12], none)) _ ?_;refine eS fun K15 hn15 hr15 he15 => ?_;refine eO fun K16 hk16 => ?_;refine tL F1 ?_;refine hk16 _ ?_;refine hn15 (some ([0, 1, 3, 6, 8, 12, 13], none)) _ ?_;refine eS fun K17 hn17 hr17 he17 => ?_;refine eS fun K18 hn18 hr18 he18 => ?_;refine eO fun K19 hk19 => ?_;refine tZ F1 ?_;refine hk19 _ ?_;refine hn18 (some ([0, 1, 3, 6, 8, 12, 13, 67], none)) _ ?_;refine eB fun K20 hn20 hx20 hr20 he20 => ?_;refine eS fun K21 hn21 hr21 he21 => ?_;refine eS fun K22 hn22 hr22 he22 => ?_
    refine eO fun K23 hk23 => ?_;refine tC 1 F1 ?_;refine tL F1 ?_;refine hk23 _ ?_;refine hn22 (some ([0, 1, 3, 6, 8, 12, 13, 67, 68], none)) _ ?_;refine eCf ?_;refine eO fun K24 hk24 => ?_;refine tC 1 F1 ?_;refine tL F1 ?_;refine hk24 _ ?_;refine hn21 (some ([0, 1, 3, 6, 8, 12, 13, 67, 68], none)) _ ?_;refine eCf ?_;refine eS fun K25 hn25 hr25 he25 => ?_;refine eS fun K26 hn26 hr26 he26 => ?_;refine eO fun K27 hk27 => ?_;refine tC 1 F1 ?_;refine tL F1 ?_;refine hk27 _ ?_;refine hn26 (some ([0, 1, 6, 8, 12, 13, 67, 91], none)) _ ?_;refine eCf ?_;refine eO fun K28 hk28 => ?_;refine tC 1 F1 ?_;refine tL F1 ?_
    refine hk28 _ ?_;refine hn25 (some ([0, 1, 6, 8, 12, 13, 67, 91], none)) _ ?_;refine eCf ?_;refine eS fun K29 hn29 hr29 he29 => ?_;refine eO fun K30 hk30 => ?_;refine tC 1 F1 ?_;refine tL F1 ?_;refine hk30 _ ?_;refine hn29 (some ([0, 1, 6, 8, 12, 13, 67, 128], none)) _ ?_;refine eCf ?_;refine eS fun K31 hn31 hr31 he31 => ?_;refine eO fun K32 hk32 => ?_;refine tC 1 F1 ?_;refine tL F1 ?_;refine hk32 _ ?_;refine hn31 (some ([0, 1, 6, 8, 12, 13, 67, 146], none)) _ ?_;refine eCf ?_;refine eS fun K33 hn33 hr33 he33 => ?_;refine eO fun K34 hk34 => ?_;refine tC 1 F1 ?_;refine tL F1 ?_;refine hk34 _ ?_
    refine hn33 (some ([0, 1, 6, 8, 12, 13, 67, 187], none)) _ ?_;refine eCt ?_;refine eD [] (n := 12) fun K35 hk35 => ?_;refine sq0 ?_;refine fC 5 F1 ?_;refine fC 3 F1 ?_;refine fS 1 F1 ?_;refine ⟨_, c0, ?_⟩;refine fL F1 ?_;refine hk35 _ ?_;refine sr0 ?_;refine tC 3 F1 ?_;refine tL F1 ?_;refine hn20 _ ?_;refine hn17 (some ([0, 1, 8, 12, 13], none)) _ ?_;refine eS fun K37 hn37 hr37 he37 => ?_;refine eO fun K38 hk38 => ?_;refine tC 4 F1 ?_;refine tC 2 F1 ?_;refine tC 1 F1 ?_;refine tZ F1 ?_;refine Or.inr ⟨9, ⟨by decide, hbd⟩, ?_⟩
    refine hk38 _ ?_;refine hn37 (some ([8, 12, 13], none)) _ ?_;refine eS fun K39 hn39 hr39 he39 => ?_;refine eO fun K40 hk40 => ?_;refine tC 1 F1 ?_;refine tC 2 F1 ?_;refine tL F1 ?_;refine hk40 _ ?_;refine hn39 (some ([8, 9], none)) _ ?_
    first | refine finK_ret [0, 1, 2, 3, 4, 5, 6] 10 (by rfl) (Nat.le_of_ble_eq_true rfl) (by rfl) ?_ | refine finK_next [0, 1, 2, 3, 4, 5, 6] 10 (by rfl) (Nat.le_of_ble_eq_true rfl) (by rfl) ?_
    exact ⟨by rfl, by rfl, by rfl⟩
  · subst hop0
    have c0 := ok_lSync M.lines t hM.lines.lines hM.lines.asks ⟨ht.1, by have := ht.2; omega⟩
    have eX : doM M t ⟨8, p, o, w⟩ c = (tickM ⟨M.mem, syncM M.lines t, M.steps, M.crashes⟩ t, ⟨zWord, true⟩, 0) := by unfold doM; rw [if_pos h]; rfl
    rw [eX] at hX
    clear eX
    generalize syncM M.lines t = R at c0 hX
    cases hX
    subst hf2 hN2
    unfold evFnO sc_l6do rv_l6do
    have F1 := And.intro @x1 (And.intro @x2 (And.intro @q2 (And.intro @q3 (And.intro @q4 (And.intro @qN @hft)))))
    refine eS fun K1 hn1 hr1 he1 => ?_;refine eO fun K2 hk2 => ?_;refine tL F1 ?_;refine hk2 _ ?_;refine hn1 (some ([0, 1, 3, 6, 8], none)) _ ?_;refine eS fun K3 hn3 hr3 he3 => ?_;refine eO fun K4 hk4 => ?_;refine tC 4 F1 ?_;refine tS 1 F1 ?_;refine Or.inl (Or.inl ⟨_, k0, ?_⟩);refine tL F1 ?_;refine hk4 _ ?_;refine hn3 (some ([0, 1, 3, 6, 8, 11], none)) _ ?_;refine eS fun K5 hn5 hr5 he5 => ?_;refine eB fun K6 hn6 hx6 hr6 he6 => ?_;refine eS fun K7 hn7 hr7 he7 => ?_;refine eO fun K8 hk8 => ?_;refine tC 2 F1 ?_;refine tC 6 F1 ?_;refine tC 1 F1 ?_;refine tL F1 ?_;refine hk8 _ ?_;refine hn7 (some ([0, 1, 3, 6, 8, 11, 22], none)) _ ?_
    refine eCf ?_;refine eS fun K9 hn9 hr9 he9 => ?_;refine eO fun K10 hk10 => ?_;refine tC 2 F1 ?_;refine tC 1 F1 ?_;refine tC 3 F1 ?_;refine tC 1 F1 ?_;refine tL F1 ?_;refine hk10 _ ?_;refine hn9 (some ([0, 1, 3, 6, 8, 11, 34], none)) _ ?_;refine eCf ?_;refine eS fun K11 hn11 hr11 he11 => ?_;refine eO fun K12 hk12 => ?_;refine tC 2 F1 ?_;refine tC 1 F1 ?_;refine tC 3 F1 ?_;refine tC 1 F1 ?_;refine tC 4 F1 ?_;refine tC 1 F1 ?_;refine tC 3 F1 ?_;refine tC 2 F1 ?_;refine tL F1 ?_;refine hk12 _ ?_;refine hn11 (some ([0, 1, 3, 6, 8, 44], none)) _ ?_;refine eCf ?_;refine hn6 _ ?_;refine hn5 (some ([0, 1, 3, 6, 8], none)) _ ?_
    refine eS fun K13 hn13 hr13 he13 => ?_;refine eO fun K14 hk14 => ?_;refine tZ F1 ?_;refine hk14 _ ?_;refine hn13 (some ([0, 1, 3, 6, 8, 12], none)) _ ?_;refine eS fun K15 hn15 hr15 he15 => ?_;refine eO fun K16 hk16 => ?_;refine tL F1 ?_;refine hk16 _ ?_;refine hn15 (some ([0, 1, 3, 6, 8, 12, 13], none)) _ ?_;refine eS fun K17 hn17 hr17 he17 => ?_;refine eS fun K18 hn18 hr18 he18 => ?_;refine eO fun K19 hk19 => ?_;refine tZ F1 ?_;refine hk19 _ ?_;refine hn18 (some ([0, 1, 3, 6, 8, 12, 13, 67], none)) _ ?_;refine eB fun K20 hn20 hx20 hr20 he20 => ?_;refine eS fun K21 hn21 hr21 he21 => ?_;refine eS fun K22 hn22 hr22 he22 => ?_
    refine eO fun K23 hk23 => ?_;refine tC 1 F1 ?_;refine tL F1 ?_;refine hk23 _ ?_;refine hn22 (some ([0, 1, 3, 6, 8, 12, 13, 67, 68], none)) _ ?_;refine eCf ?_;refine eO fun K24 hk24 => ?_;refine tC 1 F1 ?_;refine tL F1 ?_;refine hk24 _ ?_;refine hn21 (some ([0, 1, 3, 6, 8, 12, 13, 67, 68], none)) _ ?_;refine eCf ?_;refine eS fun K25 hn25 hr25 he25 => ?_;refine eS fun K26 hn26 hr26 he26 => ?_;refine eO fun K27 hk27 => ?_;refine tC 1 F1 ?_;refine tL F1 ?_;refine hk27 _ ?_;refine hn26 (some ([0, 1, 6, 8, 12, 13, 67, 91], none)) _ ?_;refine eCf ?_;refine eO fun K28 hk28 => ?_;refine tC 1 F1 ?_;refine tL F1 ?_
    refine hk28 _ ?_;refine hn25 (some ([0, 1, 6, 8, 12, 13, 67, 91], none)) _ ?_;refine eCf ?_;refine eS fun K29 hn29 hr29 he29 => ?_;refine eO fun K30 hk30 => ?_;refine tC 1 F1 ?_;refine tL F1 ?_;refine hk30 _ ?_;refine hn29 (some ([0, 1, 6, 8, 12, 13, 67, 128], none)) _ ?_;refine eCf ?_;refine eS fun K31 hn31 hr31 he31 => ?_;refine eO fun K32 hk32 => ?_;refine tC 1 F1 ?_;refine tL F1 ?_;refine hk32 _ ?_;refine hn31 (some ([0, 1, 6, 8, 12, 13, 67, 146], none)) _ ?_;refine eCf ?_;refine eS fun K33 hn33 hr33 he33 => ?_;refine eO fun K34 hk34 => ?_;refine tC 1 F1 ?_;refine tL F1 ?_;refine hk34 _ ?_
    refine hn33 (some ([0, 1, 6, 8, 12, 13, 67, 187], none)) _ ?_;refine eCf ?_;refine eS fun K35 hn35 hr35 he35 => ?_;refine eO fun K36 hk36 => ?_;refine tC 1 F1 ?_;refine tL F1 ?_;refine hk36 _ ?_;refine hn35 (some ([0, 1, 8, 12, 13, 203], none)) _ ?_;refine eCt ?_;refine eO fun K37 hk37 => ?_;refine tC 5 F1 ?_;refine tS 1 F1 ?_;refine tS 1 F1 ?_;refine Or.inl (Or.inl ⟨_, c0, ?_⟩);refine tC 6 F1 ?_;refine tL F1 ?_;refine hk37 _ ?_;refine hn20 _ ?_;refine hn17 (some ([0, 1, 8, 12, 13], none)) _ ?_;refine eS fun K38 hn38 hr38 he38 => ?_;refine eO fun K39 hk39 => ?_;refine tC 4 F1 ?_;refine tC 2 F1 ?_
    refine tC 1 F1 ?_;refine tZ F1 ?_;refine Or.inr ⟨9, ⟨by decide, hbd⟩, ?_⟩
    refine hk39 _ ?_;refine hn38 (some ([8, 12, 13], none)) _ ?_;refine eS fun K40 hn40 hr40 he40 => ?_;refine eO fun K41 hk41 => ?_;refine tC 1 F1 ?_;refine tC 2 F1 ?_;refine tL F1 ?_;refine hk41 _ ?_;refine hn40 (some ([8, 9], none)) _ ?_
    first | refine finK_ret [0, 1, 2, 3, 4, 5, 6] 10 (by rfl) (Nat.le_of_ble_eq_true rfl) (by rfl) ?_ | refine finK_next [0, 1, 2, 3, 4, 5, 6] 10 (by rfl) (Nat.le_of_ble_eq_true rfl) (by rfl) ?_
    exact ⟨by rfl, by rfl, by rfl⟩
set_option maxRecDepth 20000 in
set_option maxHeartbeats 4000000 in
theorem okO_l6crash (C D : Ob) {M X : MachM} {c : Int} {N : Nat} {f : Int → Option Sh} {n : Nat} (hM : MachOk M n) (hn : n ≤ 900) (hv : ¬ (M.mem.views.length = 0 ∨ M.mem.places.length = 0)) (hX : crashM M c = X) :
    OkO 20 [.ptr 1 0 0, sI c] [(0, D), (3, C), (1, .box 66 (cTwo M.mem M.lines M.mem.views.length 2 M.crashes)), (2, .map 3 N f)] 4 (fun J r O' n' => r = .tup [] ∧ O' = [(0, D), (1, .box 66 (cTwo X.mem X.lines M.mem.views.length 2 X.crashes)), (2, .map 3 N f), (3, C), (4, .gh J)] ∧ n' = 5) := by
  refine okO_of_tr Try.func20 tr_l6crash rfl fun J => ?_
  have k1 := ok_lCrash M.lines c hM.lines.lines (fun y hy => Nat.le_trans (hM.lines.most y hy) (by omega))
  have k2 := ok_mNew M.mem.views.length 0 (leftM M.lines (mixF c))
  have h0 := crash_new hM c hv
  have hll := left_len M.lines (mixF c)
  rw [hM.size] at hll
  have hpl := hM.mem.pl
  have k3 := ok_lineNew 0 (leftM M.lines (mixF c)) (by omega)
  rw [h0] at k2
  have hc := hM.crashes
  have q1 : IntKind.i64.wrap (M.crashes + 1) = M.crashes + 1 := by rw [IntKind.wrap_i64]; omega
  unfold crashM at hX
  rw [if_neg hv] at hX
  generalize leftM M.lines (mixF c) = W at k1 k2 k3 hX
  generalize (mnewM M.mem.views.length W).1 = R at k2 hX
  generalize newM W = R2 at k3 hX
  subst hX
  unfold evFnO sc_l6crash rv_l6crash
  have F1 := @q1
  refine eS fun K1 hn1 hr1 he1 => ?_;refine eO fun K2 hk2 => ?_;refine tC 4 F1 ?_;refine tS 1 F1 ?_;refine tS 1 F1 ?_;refine Or.inl (Or.inl ⟨_, k1, ?_⟩);refine tL F1 ?_;refine hk2 _ ?_;refine hn1 (some ([0, 4], none)) _ ?_;refine eS fun K3 hn3 hr3 he3 => ?_;refine eO fun K4 hk4 => ?_;refine tC 5 F1 ?_;refine tS 1 F1 ?_;refine tS 1 F1 ?_;refine Or.inl (Or.inl ⟨_, k2, ?_⟩);refine tZ F1 ?_;refine hk4 _ ?_;refine hn3 (some ([0, 4], none)) _ ?_;refine eS fun K5 hn5 hr5 he5 => ?_;refine eO fun K6 hk6 => ?_;refine tS 2 F1 ?_;refine tS 1 F1 ?_;refine Or.inl (Or.inl ⟨_, k3, ?_⟩);refine tZ F1 ?_;refine hk6 _ ?_
  refine hn5 (some ([0], none)) _ ?_;refine eO fun K7 hk7 => ?_;refine tC 4 F1 ?_;refine tC 1 F1 ?_;refine tZ F1 ?_;refine hk7 _ ?_
  first | refine finK_ret [0, 1, 2, 3, 4] 5 (by rfl) (Nat.le_of_ble_eq_true rfl) (by rfl) ?_ | refine finK_next [0, 1, 2, 3, 4] 5 (by rfl) (Nat.le_of_ble_eq_true rfl) (by rfl) ?_
  exact ⟨by rfl, by rfl, by rfl⟩
end Go.Proofs.Ytkoibcblmgmdmaa
