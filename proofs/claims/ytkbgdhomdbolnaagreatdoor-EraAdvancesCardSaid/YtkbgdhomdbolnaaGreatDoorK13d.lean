/-
  Layer 13 by shadows: the helpers of the laws.
-/
import Derived.Test.YtkbgdhomdbolnaaGreatDoorK13a
import Derived.Test.YtkbgdhomdbolnaaGreatDoorK13b
import Derived.Test.YtkbgdhomdbolnaaGreatDoorK9
import Derived.Test.YtkbgdhomdbolnaaGreatDoorSc13l
import Derived.Test.YtkbgdhomdbolnaaGreatDoorMC
namespace Go.Proofs.YtkbgdhomdbolnaaGreatDoor
set_option linter.unusedSimpArgs false
set_option linter.unusedVariables false
open Go.RowKit Go.Maps

abbrev s8 (n : Int) : Sh := .v (.int .u8 n)
def planL : LayV := ⟨3, 8, 0⟩
theorem ok_l13plan : Ok 38 [] (.agg (eLay planL)) := by
  refine ok_of_tr Tryz.func38 tr_l13plan rfl ?_
  unfold evFn sc_l13plan rv_l13plan
  refine eS fun K1 hn1 hr1 he1 => ?_
  refine eO fun K2 hk2 => ?_
  refine tL0 ?_
  refine hk2 _ ?_
  refine hn1 (some ([0], none)) _ ?_
  refine eS fun K3 hn3 hr3 he3 => ?_
  refine eO fun K4 hk4 => ?_
  refine tZ0 ?_
  refine hk4 _ ?_
  refine hn3 (some ([0], none)) _ ?_
  refine sg0 ?_
  rfl
def madeK (k t : Int) : Option EraV × Int := if k % 3 = 0 then enterE planL t .enter else if k % 3 = 1 then enterE planL t .leave1 else madeE planL 0 .adv1
theorem rem3 {k r : Int} (h0 : 0 ≤ k ∧ k ≤ 255) (h : k % 3 = r) : k.tmod 3 = r := by
  rw [Int.tmod_eq_emod_of_nonneg h0.1, h]
set_option maxHeartbeats 1000000 in
theorem ok_l13made (k t : Int) (hk : 0 ≤ k ∧ k ≤ 255) (ht : -9223372036854775808 ≤ t ∧ t ≤ 9223372036854775807) : Ok 39 [s8 k, sI t] (eMadeE (madeK k t)) := by
  refine ok_of_tr Tryz.func39 tr_l13made rfl ?_
  have kp := ok_l13plan
  have k1 := ok_eraEnter planL t ht
  have k2 := ok_eraLeave planL t ht
  have k3 := ok_eraAdvance planL
  unfold madeK
  generalize planL = L at *
  have hc : k % 3 = 0 ∨ k % 3 = 1 ∨ k % 3 = 2 := by omega
  rcases hc with h | h | h
  · rw [if_pos h]
    have w1 := rem3 hk h
    generalize enterE L t .enter = R at k1 ⊢
    obtain ⟨c, e⟩ := R
    cases c
    · skip
      unfold evFn sc_l13made rv_l13made
      have F1 := @w1
      refine eS fun K1 hn1 hr1 he1 => ?_
      refine eO fun K2 hk2 => ?_
      refine tL F1 ?_
      refine hk2 _ ?_
      refine hn1 (some ([0, 1], none)) _ ?_
      refine eS fun K3 hn3 hr3 he3 => ?_
      refine eS fun K4 hn4 hr4 he4 => ?_
      refine eO fun K5 hk5 => ?_
      refine tZ F1 ?_
      refine hk5 _ ?_
      refine hn4 (some ([1, 7], none)) _ ?_
      refine eB fun K6 hn6 hx6 hr6 he6 => ?_
      refine eS fun K7 hn7 hr7 he7 => ?_
      refine eO fun K8 hk8 => ?_
      refine tC 1 F1 ?_
      refine tL F1 ?_
      refine hk8 _ ?_
      refine hn7 (some ([1, 7, 8], none)) _ ?_
      refine eCt ?_
      refine eS fun K9 hn9 hr9 he9 => ?_
      refine eO fun K10 hk10 => ?_
      refine tS 1 F1 ?_
      refine Or.inl (Or.inl ⟨_, kp, ?_⟩)
      refine tS 1 F1 ?_
      refine tS 1 F1 ?_
      refine Or.inl (Or.inl ⟨_, k1, ?_⟩)
      refine tL F1 ?_
      refine hk10 _ ?_
      refine hn9 (some ([4, 5], none)) _ ?_
      refine hr6 _ ?_
      refine hr3 _ ?_
      exact sf1 F1
    · skip
      unfold evFn sc_l13made rv_l13made
      have F1 := @w1
      refine eS fun K1 hn1 hr1 he1 => ?_
      refine eO fun K2 hk2 => ?_
      refine tL F1 ?_
      refine hk2 _ ?_
      refine hn1 (some ([0, 1], none)) _ ?_
      refine eS fun K3 hn3 hr3 he3 => ?_
      refine eS fun K4 hn4 hr4 he4 => ?_
      refine eO fun K5 hk5 => ?_
      refine tZ F1 ?_
      refine hk5 _ ?_
      refine hn4 (some ([1, 7], none)) _ ?_
      refine eB fun K6 hn6 hx6 hr6 he6 => ?_
      refine eS fun K7 hn7 hr7 he7 => ?_
      refine eO fun K8 hk8 => ?_
      refine tC 1 F1 ?_
      refine tL F1 ?_
      refine hk8 _ ?_
      refine hn7 (some ([1, 7, 8], none)) _ ?_
      refine eCt ?_
      refine eS fun K9 hn9 hr9 he9 => ?_
      refine eO fun K10 hk10 => ?_
      refine tS 1 F1 ?_
      refine Or.inl (Or.inl ⟨_, kp, ?_⟩)
      refine tS 1 F1 ?_
      refine tS 1 F1 ?_
      refine Or.inl (Or.inl ⟨_, k1, ?_⟩)
      refine tL F1 ?_
      refine hk10 _ ?_
      refine hn9 (some ([4, 5], none)) _ ?_
      refine hr6 _ ?_
      refine hr3 _ ?_
      exact sf1 F1
  · rw [if_neg (by omega), if_pos h]
    have w1 := rem3 hk h
    generalize enterE L t .leave1 = R at k2 ⊢
    obtain ⟨c, e⟩ := R
    cases c
    · skip
      unfold evFn sc_l13made rv_l13made
      have F1 := @w1
      refine eS fun K1 hn1 hr1 he1 => ?_
      refine eO fun K2 hk2 => ?_
      refine tL F1 ?_
      refine hk2 _ ?_
      refine hn1 (some ([0, 1], none)) _ ?_
      refine eS fun K3 hn3 hr3 he3 => ?_
      refine eS fun K4 hn4 hr4 he4 => ?_
      refine eO fun K5 hk5 => ?_
      refine tZ F1 ?_
      refine hk5 _ ?_
      refine hn4 (some ([1, 7], none)) _ ?_
      refine eB fun K6 hn6 hx6 hr6 he6 => ?_
      refine eS fun K7 hn7 hr7 he7 => ?_
      refine eO fun K8 hk8 => ?_
      refine tC 1 F1 ?_
      refine tL F1 ?_
      refine hk8 _ ?_
      refine hn7 (some ([1, 7, 8], none)) _ ?_
      refine eCf ?_
      refine eS fun K9 hn9 hr9 he9 => ?_
      refine eO fun K10 hk10 => ?_
      refine tC 1 F1 ?_
      refine tL F1 ?_
      refine hk10 _ ?_
      refine hn9 (some ([1, 15], none)) _ ?_
      refine eCt ?_
      refine eS fun K11 hn11 hr11 he11 => ?_
      refine eO fun K12 hk12 => ?_
      refine tS 1 F1 ?_
      refine Or.inl (Or.inl ⟨_, kp, ?_⟩)
      refine tS 1 F1 ?_
      refine tS 1 F1 ?_
      refine Or.inl (Or.inl ⟨_, k2, ?_⟩)
      refine tL F1 ?_
      refine hk12 _ ?_
      refine hn11 (some ([4, 5], none)) _ ?_
      refine hr6 _ ?_
      refine hr3 _ ?_
      exact sf1 F1
    · skip
      unfold evFn sc_l13made rv_l13made
      have F1 := @w1
      refine eS fun K1 hn1 hr1 he1 => ?_
      refine eO fun K2 hk2 => ?_
      refine tL F1 ?_
      refine hk2 _ ?_
      refine hn1 (some ([0, 1], none)) _ ?_
      refine eS fun K3 hn3 hr3 he3 => ?_
      refine eS fun K4 hn4 hr4 he4 => ?_
      refine eO fun K5 hk5 => ?_
      refine tZ F1 ?_
      refine hk5 _ ?_
      refine hn4 (some ([1, 7], none)) _ ?_
      refine eB fun K6 hn6 hx6 hr6 he6 => ?_
      refine eS fun K7 hn7 hr7 he7 => ?_
      refine eO fun K8 hk8 => ?_
      refine tC 1 F1 ?_
      refine tL F1 ?_
      refine hk8 _ ?_
      refine hn7 (some ([1, 7, 8], none)) _ ?_
      refine eCf ?_
      refine eS fun K9 hn9 hr9 he9 => ?_
      refine eO fun K10 hk10 => ?_
      refine tC 1 F1 ?_
      refine tL F1 ?_
      refine hk10 _ ?_
      refine hn9 (some ([1, 15], none)) _ ?_
      refine eCt ?_
      refine eS fun K11 hn11 hr11 he11 => ?_
      refine eO fun K12 hk12 => ?_
      refine tS 1 F1 ?_
      refine Or.inl (Or.inl ⟨_, kp, ?_⟩)
      refine tS 1 F1 ?_
      refine tS 1 F1 ?_
      refine Or.inl (Or.inl ⟨_, k2, ?_⟩)
      refine tL F1 ?_
      refine hk12 _ ?_
      refine hn11 (some ([4, 5], none)) _ ?_
      refine hr6 _ ?_
      refine hr3 _ ?_
      exact sf1 F1
  · rw [if_neg (by omega), if_neg (by omega)]
    have w1 := rem3 hk h
    generalize madeE L 0 .adv1 = R at k3 ⊢
    obtain ⟨c, e⟩ := R
    cases c
    · skip
      unfold evFn sc_l13made rv_l13made
      have F1 := @w1
      refine eS fun K1 hn1 hr1 he1 => ?_
      refine eO fun K2 hk2 => ?_
      refine tL F1 ?_
      refine hk2 _ ?_
      refine hn1 (some ([0, 1], none)) _ ?_
      refine eS fun K3 hn3 hr3 he3 => ?_
      refine eS fun K4 hn4 hr4 he4 => ?_
      refine eO fun K5 hk5 => ?_
      refine tZ F1 ?_
      refine hk5 _ ?_
      refine hn4 (some ([1, 7], none)) _ ?_
      refine eB fun K6 hn6 hx6 hr6 he6 => ?_
      refine eS fun K7 hn7 hr7 he7 => ?_
      refine eO fun K8 hk8 => ?_
      refine tC 1 F1 ?_
      refine tL F1 ?_
      refine hk8 _ ?_
      refine hn7 (some ([1, 7, 8], none)) _ ?_
      refine eCf ?_
      refine eS fun K9 hn9 hr9 he9 => ?_
      refine eO fun K10 hk10 => ?_
      refine tC 1 F1 ?_
      refine tL F1 ?_
      refine hk10 _ ?_
      refine hn9 (some ([1, 15], none)) _ ?_
      refine eCf ?_
      refine hn6 _ ?_
      refine hn3 (some ([], none)) _ ?_
      refine eS fun K11 hn11 hr11 he11 => ?_
      refine eO fun K12 hk12 => ?_
      refine tS 1 F1 ?_
      refine Or.inl (Or.inl ⟨_, kp, ?_⟩)
      refine tS 1 F1 ?_
      refine Or.inl (Or.inl ⟨_, k3, ?_⟩)
      refine tL F1 ?_
      refine hk12 _ ?_
      refine hn11 (some ([4, 5], none)) _ ?_
      exact sf1 F1
    · skip
      unfold evFn sc_l13made rv_l13made
      have F1 := @w1
      refine eS fun K1 hn1 hr1 he1 => ?_
      refine eO fun K2 hk2 => ?_
      refine tL F1 ?_
      refine hk2 _ ?_
      refine hn1 (some ([0, 1], none)) _ ?_
      refine eS fun K3 hn3 hr3 he3 => ?_
      refine eS fun K4 hn4 hr4 he4 => ?_
      refine eO fun K5 hk5 => ?_
      refine tZ F1 ?_
      refine hk5 _ ?_
      refine hn4 (some ([1, 7], none)) _ ?_
      refine eB fun K6 hn6 hx6 hr6 he6 => ?_
      refine eS fun K7 hn7 hr7 he7 => ?_
      refine eO fun K8 hk8 => ?_
      refine tC 1 F1 ?_
      refine tL F1 ?_
      refine hk8 _ ?_
      refine hn7 (some ([1, 7, 8], none)) _ ?_
      refine eCf ?_
      refine eS fun K9 hn9 hr9 he9 => ?_
      refine eO fun K10 hk10 => ?_
      refine tC 1 F1 ?_
      refine tL F1 ?_
      refine hk10 _ ?_
      refine hn9 (some ([1, 15], none)) _ ?_
      refine eCf ?_
      refine hn6 _ ?_
      refine hn3 (some ([], none)) _ ?_
      refine eS fun K11 hn11 hr11 he11 => ?_
      refine eO fun K12 hk12 => ?_
      refine tS 1 F1 ?_
      refine Or.inl (Or.inl ⟨_, kp, ?_⟩)
      refine tS 1 F1 ?_
      refine Or.inl (Or.inl ⟨_, k3, ?_⟩)
      refine tL F1 ?_
      refine hk12 _ ?_
      refine hn11 (some ([4, 5], none)) _ ?_
      exact sf1 F1
/-! ### The world of the laws -/
def codeE (k t : Int) : EraV := if k % 3 = 0 then newE planL t .enter else if k % 3 = 1 then newE planL t .leave1 else newE planL 0 .adv1
theorem made_ok (k : Int) {t : Int} (ht : 1 ≤ t ∧ t ≤ 3) : madeK k t = (some (codeE k t), 0) := by
  have hc : checkL planL = 0 := by decide
  have h1 : checkE planL t = 0 := by
    unfold checkE
    rw [if_pos hc, if_neg (by show ¬ (t < 1 ∨ (3 : Int) < t); omega)]
  unfold madeK codeE enterE madeE
  rw [if_pos h1, if_pos h1, if_pos hc]
  split
  · rfl
  · split <;> rfl
def codesE (k0 k1 k2 : Int) : List EraV := [codeE k0 1, codeE k1 2, codeE k2 3]
def machE : MachM := (cnewM 3 (firstM planL)).1
noncomputable def worldE (k0 k1 k2 : Int) : WorldM era := (makeM (C := era) machE (codesE k0 k1 k2)).1
theorem first_len : (firstM planL).length = 376 := by
  unfold firstM
  rw [slotsV_len, slotsV_len, putV_len, List.length_replicate]
  decide
theorem mnew_plan : (mnewM 3 (firstM planL)).2 = 0 := by
  unfold mnewM
  rw [if_neg (by omega), if_neg (by rw [first_len]; decide), if_neg (by rw [first_len]; decide)]
theorem kn_plan : Ok 62 [sI 3, .sl 3 0 ((firstM planL).map eWord)] (.tup [eMach machE, sI 0]) := by
  have h := ok_cNew 3 0 (firstM planL)
  rw [(cnew_sizes mnew_plan).2.2] at h
  unfold machE
  exact h
theorem machE_ok : MachOk machE 1 := by unfold machE; exact machOk_up (machOk_new _ _) (by omega)
theorem machE_views : machE.mem.views.length = 3 := by unfold machE; rw [(cnew_sizes mnew_plan).1]; rfl
theorem machE_places : machE.mem.places.length = 376 := by unfold machE; rw [(cnew_sizes mnew_plan).2.1, first_len]
attribute [local irreducible] firstM machE
theorem world_ok (k0 k1 k2 : Int) : WorldOk (worldE k0 k1 k2) 2 ∧ makeM (C := era) machE (codesE k0 k1 k2) = (⟨machE, (codesE k0 k1 k2).map (startM (C := era)), List.replicate 3 false⟩, 0) := by
  have e : makeM (C := era) machE (codesE k0 k1 k2) = (⟨machE, (codesE k0 k1 k2).map (startM (C := era)), List.replicate 3 false⟩, 0) := by
    unfold makeM
    rw [if_neg (by rw [machE_views]; show ¬ ((3 : Nat) : Int) < ((3 : Nat) : Int); decide)]
    rfl
  refine ⟨?_, e⟩
  unfold worldE
  rw [e]
  refine ⟨machOk_up machE_ok (by omega), ?_, by simp [codesE], fun t ht => ?_⟩
  · show ((codesE k0 k1 k2).map (startM (C := era))).length ≤ machE.mem.views.length
    rw [machE_views, List.length_map]
    exact Nat.le_refl 3
  · obtain ⟨s, hs, rfl⟩ := List.mem_map.1 ht
    exact taskOk_up (startOk (C := era) (n := 0) trivial) (by omega)
abbrev eT1E (s : EraV) : List Sh := [.ifc 148 (.agg (cEra s))]
theorem eC1_era : eC1 era = eT1E := rfl
def WeInv (k0 k1 k2 : Int) (M : MachM) (k : Nat) (S : St) : Prop :=
  ∃ i : Nat, i ≤ 3 ∧ k = 3 - i ∧ S = ⟨[(1, .ptr 0 0 0), (2, .ptr 1 0 0), (5, .ptr 2 0 0), (6, sI 0), (7, .own 3), (8, sI ((i : Int) + 1))], [(0, .box 108 [s8 k0, s8 k1, s8 k2]), (1, .box 61 zCells), (2, .box 57 (cMach M)), (3, .row 29 1 (((codesE k0 k1 k2).take i).map eT1E))], 4⟩
set_option maxHeartbeats 8000000 in
theorem ok_l13world (k0 k1 k2 : Int) (h0 : 0 ≤ k0 ∧ k0 ≤ 255) (h1 : 0 ≤ k1 ∧ k1 ≤ 255) (h2 : 0 ≤ k2 ∧ k2 ≤ 255) : Ok 46 [.agg [s8 k0, s8 k1, s8 k2]] (.tup [eWorld (worldE k0 k1 k2), sB true]) := by
  refine ok_of_tr Tryz.func46 tr_l13world rfl ?_
  have kp := ok_l13plan
  have kf := ok_layFirst planL (by decide)
  have kn := kn_plan
  obtain ⟨_, e⟩ := world_ok k0 k1 k2
  have km := ok_kMake (C := era) machE 0 (codesE k0 k1 k2) (by rw [machE_views]; decide) (n := 0) (fun s hs => trivial) (by decide)
  rw [eC1_era] at km
  have e1 : (makeM (C := era) machE (codesE k0 k1 k2)).2 = 0 := by rw [e]
  rw [e1] at km
  change Ok _ _ (.tup [eWorld (worldE k0 k1 k2), sI 0]) at km
  have k3 : ∀ i : Nat, i < 3 → ∃ ki s, (codesE k0 k1 k2)[i]? = some s ∧ [s8 k0, s8 k1, s8 k2][i]? = some (s8 ki) ∧ Ok 39 [s8 ki, sI ((i : Int) + 1)] (.tup [.ifc 148 (.agg (cEra s)), sI 0]) := fun i hi =>
    match i, hi with
    | 0, _ => ⟨k0, codeE k0 1, rfl, rfl, by have := ok_l13made k0 1 h0 (by omega); rwa [made_ok k0 (by omega)] at this⟩
    | 1, _ => ⟨k1, codeE k1 2, rfl, rfl, by have := ok_l13made k1 2 h1 (by omega); rwa [made_ok k1 (by omega)] at this⟩
    | 2, _ => ⟨k2, codeE k2 3, rfl, rfl, by have := ok_l13made k2 3 h2 (by omega); rwa [made_ok k2 (by omega)] at this⟩
  have hcl : (codesE k0 k1 k2).length = 3 := rfl
  generalize worldE k0 k1 k2 = W at km ⊢
  generalize machE = M at kn km
  generalize firstM planL = fs at kf kn
  generalize planL = L at kp kf
  clear e e1
  unfold evFn sc_l13world rv_l13world
  refine eS fun K1 hn1 hr1 he1 => ?_
  refine eO fun K2 hk2 => ?_
  refine tL0 ?_
  refine hk2 _ ?_
  refine hn1 (some ([1, 2], none)) _ ?_
  refine eS fun K3 hn3 hr3 he3 => ?_
  refine eO fun K4 hk4 => ?_
  refine tS0 1 ?_
  refine Or.inl (Or.inl ⟨_, kp, ?_⟩)
  refine tZ0 ?_
  refine hk4 _ ?_
  refine hn3 (some ([1, 2, 4], none)) _ ?_
  refine eS fun K5 hn5 hr5 he5 => ?_
  refine eO fun K6 hk6 => ?_
  refine tC0 1 ?_
  refine tS0 1 ?_
  refine Or.inl (Or.inl ⟨_, kf, ?_⟩)
  refine tS0 1 ?_
  refine Or.inl (Or.inl ⟨_, kn, ?_⟩)
  refine tC0 5 ?_
  refine tL0 ?_
  refine hk6 _ ?_
  refine hn5 (some ([1, 2, 5, 6], none)) _ ?_
  refine eS fun K7 hn7 hr7 he7 => ?_
  refine eO fun K8 hk8 => ?_
  refine tL0 ?_
  refine hk8 _ ?_
  refine hn7 (some ([1, 2, 5, 6, 7], none)) _ ?_
  refine eS fun K9 hn9 hr9 he9 => ?_
  refine eS fun K10 hn10 hr10 he10 => ?_
  refine eO fun K11 hk11 => ?_
  refine tL0 ?_
  refine hk11 _ ?_
  refine hn10 (some ([1, 2, 5, 6, 7, 8], none)) _ ?_
  refine eB fun K12 hn12 hx12 hr12 he12 => ?_
  refine eW (WeInv k0 k1 k2 M) (3) (some ([1, 2, 5, 6, 7, 8], some ([0, 1, 3, 4], 4))) ([.slot 7 (some 29) 1]) ?_ ?_
  · try refine lp0 ?_
    exact ⟨0, by omega, by omega, by rfl⟩
  · intro k S1 hI
    obtain ⟨i, hi, rfl, rfl⟩ := hI
    have hcase : i = 3 ∨ i < 3 := by omega
    intro K13 hn13 hr13 he13
    rcases hcase with hcc | hcc
    · skip
      subst hcc
      have w3 : (codesE k0 k1 k2).take 3 = codesE k0 k1 k2 := rfl
      have w2 : ¬ ((3 : Nat) : Int) + 1 ≤ 3 := by omega
      have F1 := And.intro @w2 @w3
      refine eS fun K14 hn14 hr14 he14 => ?_
      refine eS fun K15 hn15 hr15 he15 => ?_
      refine eO fun K16 hk16 => ?_
      refine tZ F1 ?_
      refine hk16 _ ?_
      refine hn15 (some ([1, 2, 5, 6, 7, 8, 21], none)) _ ?_
      refine eCf ?_
      refine he14 0 _ ?_
      refine he13 0 _ ?_
      refine hx12 _ ?_
      refine hn9 (some ([2, 5, 6, 7], none)) _ ?_
      refine eS fun K17 hn17 hr17 he17 => ?_
      refine eO fun K18 hk18 => ?_
      refine tC 1 F1 ?_
      refine tS 1 F1 ?_
      refine tS 1 F1 ?_
      refine Or.inl (Or.inl ⟨_, km, ?_⟩)
      refine tC 5 F1 ?_
      refine tL F1 ?_
      refine hk18 _ ?_
      refine hn17 (some ([2, 6, 11, 12], none)) _ ?_
      refine eS fun K19 hn19 hr19 he19 => ?_
      refine eO fun K20 hk20 => ?_
      refine tC 1 F1 ?_
      refine tC 2 F1 ?_
      refine tC 3 F1 ?_
      refine tC 2 F1 ?_
      refine tL F1 ?_
      refine hk20 _ ?_
      refine hn19 (some ([2, 3], none)) _ ?_
      exact sf1 F1
    · skip
      have w2 : (i : Int) + 1 ≤ 3 := by omega
      have w3 : IntKind.i64.wrap ((i : Int) + 1 + 1) = ((i + 1 : Nat) : Int) + 1 := by rw [IntKind.wrap_i64]; omega
      have w1 : IntKind.i64.wrap ((i : Int) + 1 - 1) = (i : Int) := by rw [IntKind.wrap_i64]; omega
      obtain ⟨ki, s, hs1, hs2, km2⟩ := k3 i hcc
      have hs : ((codesE k0 k1 k2).take (i + 1)).map eT1E = ((codesE k0 k1 k2).take i).map eT1E ++ [eT1E s] := by
        rw [List.take_add_one, hs1]; simp
      have w4 : ((codesE k0 k1 k2).take i).length = i := by rw [List.length_take, hcl]; omega
      have w5 : (i + 1) * 16 ≤ 140737488355328 := by omega
      have w6 : (i : Int) < 3 := by omega
      have w7 : i * 1 = i := Nat.mul_one i
      have F2 := And.intro @w1 (And.intro @w2 (And.intro @w3 (And.intro @w4 (And.intro @w5 (And.intro @w6 (And.intro @w7 (And.intro @hs2 @hcc)))))))
      refine eS fun K21 hn21 hr21 he21 => ?_
      refine eS fun K22 hn22 hr22 he22 => ?_
      refine eO fun K23 hk23 => ?_
      refine tZ F2 ?_
      refine hk23 _ ?_
      refine hn22 (some ([1, 2, 5, 6, 7, 8, 21], none)) _ ?_
      refine eCt ?_
      refine hn21 (some ([1, 2, 5, 6, 7, 8], none)) _ ?_
      refine eS fun K24 hn24 hr24 he24 => ?_
      refine eB fun K25 hn25 hx25 hr25 he25 => ?_
      refine eS fun K26 hn26 hr26 he26 => ?_
      refine eO fun K27 hk27 => ?_
      refine tC 2 F2 ?_
      refine tC 1 F2 ?_
      refine tC 1 F2 ?_
      refine tS 1 F2 ?_
      refine tS 1 F2 ?_
      refine Or.inl (Or.inl ⟨_, km2, ?_⟩)
      refine tL F2 ?_
      refine hk27 _ ?_
      refine hn26 (some ([1, 2, 5, 6, 7, 8, 9, 10], none)) _ ?_
      refine eS fun K28 hn28 hr28 he28 => ?_
      refine eS fun K29 hn29 hr29 he29 => ?_
      refine eO fun K30 hk30 => ?_
      refine tZ F2 ?_
      refine hk30 _ ?_
      refine hn29 (some ([1, 2, 5, 6, 7, 8, 9, 34], none)) _ ?_
      refine eCf ?_
      refine hn28 (some ([1, 2, 5, 6, 7, 8, 9], none)) _ ?_
      refine eO fun K31 hk31 => ?_
      refine tC 3 F2 ?_
      refine tC 1 F2 ?_
      refine tL F2 ?_
      refine hk31 _ ?_
      refine hn25 _ ?_
      refine hn24 (some ([1, 2, 5, 6, 7, 8], none)) _ ?_
      refine eO fun K32 hk32 => ?_
      refine tC 2 F2 ?_
      refine tL F2 ?_
      refine hk32 _ ?_
      refine hn13 (3 - (i + 1)) (some ([1, 2, 5, 6, 7, 8], some ([0, 1, 2, 4], 4))) _ ?_ ?_
      all_goals try refine lp0 ?_
      · omega
      · exact ⟨i + 1, by omega, by omega, by rw [hs]⟩
end Go.Proofs.YtkbgdhomdbolnaaGreatDoor
