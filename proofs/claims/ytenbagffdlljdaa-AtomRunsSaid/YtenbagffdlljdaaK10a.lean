/-
  Layer 10 by shadows: atoms.
-/
import Derived.Test.YtenbagffdlljdaaK8d
import Derived.Test.YtenbagffdlljdaaGen2
import Derived.Test.YtenbagffdlljdaaSc10
import Derived.Test.YtenbagffdlljdaaMC
namespace Go.Proofs.Ytenbagffdlljdaa
set_option linter.unusedSimpArgs false
set_option linter.unusedVariables false
open Go.RowKit Go.Maps
structure OpV where
  kind : Int
  loc : Int
  n : Int
abbrev eOp (o : OpV) : List Sh := [sI o.kind, sI o.loc, sI o.n]
def checkA (o : OpV) : Int := if o.kind < 0 ∨ 3 < o.kind then 2 else if o.loc < 0 ∨ 4096 ≤ o.loc then 3 else if o.kind = 3 ∧ o.n = 0 then 4 else 0
def mkA (kind n v : Int) : Int := if kind = 0 then IntKind.i64.wrap (v + n) else if kind = 1 then max v n else if kind = 2 then n else if v = 0 then n else v
def doA (o : OpV) (v : Int) : Int × Int := if checkA o = 0 then (mkA o.kind o.n v, v) else (v, 0)
theorem checkA_zero {o : OpV} (h : checkA o = 0) : (0 ≤ o.kind ∧ o.kind ≤ 3) ∧ (0 ≤ o.loc ∧ o.loc < 4096) ∧ ¬ (o.kind = 3 ∧ o.n = 0) := by
  unfold checkA at h
  split at h
  · cases h
  · split at h
    · cases h
    · split at h
      · cases h
      · refine ⟨by omega, by omega, by assumption⟩
set_option maxHeartbeats 2000000 in
theorem ok_aCheck (o : OpV) : Ok 99 [.agg (eOp o)] (sI (checkA o)) := by
  refine ok_of_tr Try.func99 tr_aCheck rfl ?_
  obtain ⟨kd, lc, n⟩ := o
  unfold checkA
  simp only
  by_cases h1 : kd < 0
  · rw [if_pos (.inl h1)]
    unfold evFn sc_aCheck rv_aCheck
    have F1 := @h1
    refine eS fun K1 hn1 hr1 he1 => ?_;refine eO fun K2 hk2 => ?_;refine tL F1 ?_;refine hk2 _ ?_;refine hn1 (some ([1], none)) _ ?_;refine eS fun K3 hn3 hr3 he3 => ?_;refine eB fun K4 hn4 hx4 hr4 he4 => ?_;refine eS fun K5 hn5 hr5 he5 => ?_;refine eO fun K6 hk6 => ?_;refine tC 2 F1 ?_;refine tC 1 F1 ?_;refine tC 3 F1 ?_;refine tC 1 F1 ?_;refine tL F1 ?_;refine hk6 _ ?_;refine hn5 (some ([1,3], none)) _ ?_;refine eCt ?_;refine eS fun K7 hn7 hr7 he7 => ?_;refine eO fun K8 hk8 => ?_;refine tL F1 ?_;refine hk8 _ ?_;refine hn7 (some ([2], none)) _ ?_;refine hr4 _ ?_;refine hr3 _ ?_
    exact sf1 F1
  by_cases h2 : 3 < kd
  · rw [if_pos (.inr h2)]
    unfold evFn sc_aCheck rv_aCheck
    have F1 := And.intro @h1 @h2
    refine eS fun K1 hn1 hr1 he1 => ?_;refine eO fun K2 hk2 => ?_;refine tL F1 ?_;refine hk2 _ ?_;refine hn1 (some ([1], none)) _ ?_;refine eS fun K3 hn3 hr3 he3 => ?_;refine eB fun K4 hn4 hx4 hr4 he4 => ?_;refine eS fun K5 hn5 hr5 he5 => ?_;refine eO fun K6 hk6 => ?_;refine tC 2 F1 ?_;refine tC 1 F1 ?_;refine tC 3 F1 ?_;refine tC 1 F1 ?_;refine tL F1 ?_;refine hk6 _ ?_;refine hn5 (some ([1,3], none)) _ ?_;refine eCt ?_;refine eS fun K7 hn7 hr7 he7 => ?_;refine eO fun K8 hk8 => ?_;refine tL F1 ?_;refine hk8 _ ?_;refine hn7 (some ([2], none)) _ ?_;refine hr4 _ ?_;refine hr3 _ ?_
    exact sf1 F1
  rw [if_neg (by omega)]
  by_cases h3 : lc < 0
  · rw [if_pos (.inl h3)]
    unfold evFn sc_aCheck rv_aCheck
    have F1 := And.intro @h1 (And.intro @h2 @h3)
    refine eS fun K1 hn1 hr1 he1 => ?_;refine eO fun K2 hk2 => ?_;refine tL F1 ?_;refine hk2 _ ?_;refine hn1 (some ([1], none)) _ ?_;refine eS fun K3 hn3 hr3 he3 => ?_;refine eB fun K4 hn4 hx4 hr4 he4 => ?_;refine eS fun K5 hn5 hr5 he5 => ?_;refine eO fun K6 hk6 => ?_;refine tC 2 F1 ?_;refine tC 1 F1 ?_;refine tC 3 F1 ?_;refine tC 1 F1 ?_;refine tL F1 ?_;refine hk6 _ ?_;refine hn5 (some ([1,3], none)) _ ?_;refine eCf ?_;refine eS fun K7 hn7 hr7 he7 => ?_;refine eO fun K8 hk8 => ?_;refine tC 2 F1 ?_;refine tC 1 F1 ?_;refine tC 3 F1 ?_;refine tC 1 F1 ?_;refine tL F1 ?_;refine hk8 _ ?_;refine hn7 (some ([1,12], none)) _ ?_;refine eCt ?_;refine eS fun K9 hn9 hr9 he9 => ?_;refine eO fun K10 hk10 => ?_;refine tL F1 ?_;refine hk10 _ ?_;refine hn9 (some ([2], none)) _ ?_;refine hr4 _ ?_;refine hr3 _ ?_
    exact sf1 F1
  by_cases h4 : 4096 ≤ lc
  · rw [if_pos (.inr h4)]
    unfold evFn sc_aCheck rv_aCheck
    have F1 := And.intro @h1 (And.intro @h2 (And.intro @h3 @h4))
    refine eS fun K1 hn1 hr1 he1 => ?_;refine eO fun K2 hk2 => ?_;refine tL F1 ?_;refine hk2 _ ?_;refine hn1 (some ([1], none)) _ ?_;refine eS fun K3 hn3 hr3 he3 => ?_;refine eB fun K4 hn4 hx4 hr4 he4 => ?_;refine eS fun K5 hn5 hr5 he5 => ?_;refine eO fun K6 hk6 => ?_;refine tC 2 F1 ?_;refine tC 1 F1 ?_;refine tC 3 F1 ?_;refine tC 1 F1 ?_;refine tL F1 ?_;refine hk6 _ ?_;refine hn5 (some ([1,3], none)) _ ?_;refine eCf ?_;refine eS fun K7 hn7 hr7 he7 => ?_;refine eO fun K8 hk8 => ?_;refine tC 2 F1 ?_;refine tC 1 F1 ?_;refine tC 3 F1 ?_;refine tC 1 F1 ?_;refine tL F1 ?_;refine hk8 _ ?_;refine hn7 (some ([1,12], none)) _ ?_;refine eCt ?_;refine eS fun K9 hn9 hr9 he9 => ?_;refine eO fun K10 hk10 => ?_;refine tL F1 ?_;refine hk10 _ ?_;refine hn9 (some ([2], none)) _ ?_;refine hr4 _ ?_;refine hr3 _ ?_
    exact sf1 F1
  rw [if_neg (by omega)]
  by_cases h5 : kd = 3
  case neg =>
    rw [if_neg (fun h => h5 h.1)]
    have d5 : (kd == 3) = false := by simpa using h5
    unfold evFn sc_aCheck rv_aCheck
    have F1 := And.intro @h1 (And.intro @h2 (And.intro @h3 (And.intro @h4 @d5)))
    refine eS fun K1 hn1 hr1 he1 => ?_;refine eO fun K2 hk2 => ?_;refine tL F1 ?_;refine hk2 _ ?_;refine hn1 (some ([1], none)) _ ?_;refine eS fun K3 hn3 hr3 he3 => ?_;refine eB fun K4 hn4 hx4 hr4 he4 => ?_;refine eS fun K5 hn5 hr5 he5 => ?_;refine eO fun K6 hk6 => ?_;refine tC 2 F1 ?_;refine tC 1 F1 ?_;refine tC 3 F1 ?_;refine tC 1 F1 ?_;refine tL F1 ?_;refine hk6 _ ?_;refine hn5 (some ([1,3], none)) _ ?_;refine eCf ?_;refine eS fun K7 hn7 hr7 he7 => ?_;refine eO fun K8 hk8 => ?_;refine tC 2 F1 ?_;refine tC 1 F1 ?_;refine tC 3 F1 ?_;refine tC 1 F1 ?_;refine tL F1 ?_;refine hk8 _ ?_;refine hn7 (some ([1,12], none)) _ ?_;refine eCf ?_;refine eS fun K9 hn9 hr9 he9 => ?_;refine eO fun K10 hk10 => ?_;refine tC 2 F1 ?_;refine tC 1 F1 ?_;refine tC 3 F1 ?_;refine tC 1 F1 ?_;refine tL F1 ?_;refine hk10 _ ?_;refine hn9 (some ([21], none)) _ ?_;refine eCf ?_;refine hn4 _ ?_;refine hn3 (some ([], none)) _ ?_
    refine eS fun K11 hn11 hr11 he11 => ?_;refine eO fun K12 hk12 => ?_;refine tL F1 ?_;refine hk12 _ ?_;refine hn11 (some ([2], none)) _ ?_
    exact sf1 F1
  subst h5
  by_cases h6 : n = 0
  · subst h6
    rw [if_pos ⟨rfl, rfl⟩]
    unfold evFn sc_aCheck rv_aCheck
    have F1 := And.intro @h3 @h4
    refine eS fun K1 hn1 hr1 he1 => ?_;refine eO fun K2 hk2 => ?_;refine tL F1 ?_;refine hk2 _ ?_;refine hn1 (some ([1], none)) _ ?_;refine eS fun K3 hn3 hr3 he3 => ?_;refine eB fun K4 hn4 hx4 hr4 he4 => ?_;refine eS fun K5 hn5 hr5 he5 => ?_;refine eO fun K6 hk6 => ?_;refine tC 2 F1 ?_;refine tC 1 F1 ?_;refine tC 3 F1 ?_;refine tC 1 F1 ?_;refine tL F1 ?_;refine hk6 _ ?_;refine hn5 (some ([1,3], none)) _ ?_;refine eCf ?_;refine eS fun K7 hn7 hr7 he7 => ?_;refine eO fun K8 hk8 => ?_;refine tC 2 F1 ?_;refine tC 1 F1 ?_;refine tC 3 F1 ?_;refine tC 1 F1 ?_;refine tL F1 ?_;refine hk8 _ ?_;refine hn7 (some ([1,12], none)) _ ?_;refine eCf ?_;refine eS fun K9 hn9 hr9 he9 => ?_;refine eO fun K10 hk10 => ?_;refine tC 2 F1 ?_;refine tC 1 F1 ?_;refine tC 3 F1 ?_;refine tC 1 F1 ?_;refine tL F1 ?_;refine hk10 _ ?_;refine hn9 (some ([21], none)) _ ?_;refine eCt ?_;refine eS fun K11 hn11 hr11 he11 => ?_;refine eO fun K12 hk12 => ?_
    refine tL F1 ?_;refine hk12 _ ?_;refine hn11 (some ([2], none)) _ ?_;refine hr4 _ ?_;refine hr3 _ ?_
    exact sf1 F1
  · rw [if_neg (fun h => h6 h.2)]
    have d6 : (n == 0) = false := by simpa using h6
    unfold evFn sc_aCheck rv_aCheck
    have F1 := And.intro @h3 (And.intro @h4 @d6)
    refine eS fun K1 hn1 hr1 he1 => ?_;refine eO fun K2 hk2 => ?_;refine tL F1 ?_;refine hk2 _ ?_;refine hn1 (some ([1], none)) _ ?_;refine eS fun K3 hn3 hr3 he3 => ?_;refine eB fun K4 hn4 hx4 hr4 he4 => ?_;refine eS fun K5 hn5 hr5 he5 => ?_;refine eO fun K6 hk6 => ?_;refine tC 2 F1 ?_;refine tC 1 F1 ?_;refine tC 3 F1 ?_;refine tC 1 F1 ?_;refine tL F1 ?_;refine hk6 _ ?_;refine hn5 (some ([1,3], none)) _ ?_;refine eCf ?_;refine eS fun K7 hn7 hr7 he7 => ?_;refine eO fun K8 hk8 => ?_;refine tC 2 F1 ?_;refine tC 1 F1 ?_;refine tC 3 F1 ?_;refine tC 1 F1 ?_;refine tL F1 ?_;refine hk8 _ ?_;refine hn7 (some ([1,12], none)) _ ?_;refine eCf ?_;refine eS fun K9 hn9 hr9 he9 => ?_;refine eO fun K10 hk10 => ?_;refine tC 2 F1 ?_;refine tC 1 F1 ?_;refine tC 3 F1 ?_;refine tC 1 F1 ?_;refine tL F1 ?_;refine hk10 _ ?_;refine hn9 (some ([21], none)) _ ?_;refine eCf ?_;refine hn4 _ ?_;refine hn3 (some ([], none)) _ ?_
    refine eS fun K11 hn11 hr11 he11 => ?_;refine eO fun K12 hk12 => ?_;refine tL F1 ?_;refine hk12 _ ?_;refine hn11 (some ([2], none)) _ ?_
    exact sf1 F1
theorem ok_aF1 (v n : Int) : Ok 162 [sI v, sI n] (sI (mkA 0 n v)) := by
  refine ok_of_tr Try.func162 tr_aF1 rfl ?_
  unfold mkA; rw [if_pos rfl]
  unfold evFn sc_aF1 rv_aF1
  refine eS fun _ hn1 _ _ => ?_;refine eO fun _ hk2 => ?_;refine tL0 ?_;refine hk2 _ ?_;refine hn1 (some ([0,1], none)) _ ?_;refine eS fun _ hn3 _ _ => ?_;refine eO fun _ hk4 => ?_;refine tC0 3 ?_;refine tL0 ?_;refine hk4 _ ?_;refine hn3 (some ([4], none)) _ ?_
  exact sf0
theorem ok_aF2 (v n : Int) : Ok 163 [sI v, sI n] (sI (mkA 1 n v)) := by
  refine ok_of_tr Try.func163 tr_aF2 rfl ?_
  unfold mkA; rw [if_neg (by decide), if_pos rfl]
  unfold evFn sc_aF2 rv_aF2
  refine eS fun _ hn1 _ _ => ?_;refine eO fun _ hk2 => ?_;refine tL0 ?_;refine hk2 _ ?_;refine hn1 (some ([0,1], none)) _ ?_;refine eS fun _ hn3 _ _ => ?_;refine eO fun _ hk4 => ?_;refine tL0 ?_;refine hk4 _ ?_;refine hn3 (some ([4], none)) _ ?_
  exact sf0
theorem ok_aF3 (v n : Int) : Ok 164 [sI v, sI n] (sI (mkA 2 n v)) := by
  refine ok_of_tr Try.func164 tr_aF3 rfl ?_
  unfold mkA; rw [if_neg (by decide), if_neg (by decide), if_pos rfl]
  unfold evFn sc_aF3 rv_aF3
  refine eS fun _ hn1 _ _ => ?_;refine eO fun _ hk2 => ?_;refine tL0 ?_;refine hk2 _ ?_;refine hn1 (some ([1], none)) _ ?_;refine eS fun _ hn3 _ _ => ?_;refine eO fun _ hk4 => ?_;refine tL0 ?_;refine hk4 _ ?_;refine hn3 (some ([4], none)) _ ?_
  exact sf0
theorem ok_aF4 (v n : Int) : Ok 165 [sI v, sI n] (sI (mkA 3 n v)) := by
  refine ok_of_tr Try.func165 tr_aF4 rfl ?_
  unfold mkA
  rw [if_neg (by decide), if_neg (by decide), if_neg (by decide)]
  by_cases h : v = 0
  · subst h
    rw [if_pos rfl]
    unfold evFn sc_aF4 rv_aF4
    refine eS fun K1 hn1 hr1 he1 => ?_;refine eO fun K2 hk2 => ?_;refine tL0 ?_;refine hk2 _ ?_;refine hn1 (some ([0,1], none)) _ ?_;refine eS fun K3 hn3 hr3 he3 => ?_;refine eS fun K4 hn4 hr4 he4 => ?_;refine eO fun K5 hk5 => ?_;refine tZ0 ?_;refine hk5 _ ?_;refine hn4 (some ([0,1,6], none)) _ ?_;refine eCt ?_;refine eS fun K6 hn6 hr6 he6 => ?_;refine eO fun K7 hk7 => ?_;refine tL0 ?_;refine hk7 _ ?_;refine hn6 (some ([4], none)) _ ?_;refine hr3 _ ?_
    exact sf0
  · rw [if_neg h]
    have d : (v == 0) = false := by simpa using h
    unfold evFn sc_aF4 rv_aF4
    have F1 := @d
    refine eS fun K1 hn1 hr1 he1 => ?_;refine eO fun K2 hk2 => ?_;refine tL F1 ?_;refine hk2 _ ?_;refine hn1 (some ([0,1], none)) _ ?_;refine eS fun K3 hn3 hr3 he3 => ?_;refine eS fun K4 hn4 hr4 he4 => ?_;refine eO fun K5 hk5 => ?_;refine tZ F1 ?_;refine hk5 _ ?_;refine hn4 (some ([0,1,6], none)) _ ?_;refine eCf ?_;refine hn3 (some ([0], none)) _ ?_;refine eS fun K6 hn6 hr6 he6 => ?_;refine eO fun K7 hk7 => ?_;refine tL F1 ?_;refine hk7 _ ?_;refine hn6 (some ([4], none)) _ ?_
    exact sf1 F1
theorem infoFnI : (Try.prog.info? 279).map (fun i => (i.zero, i.size, i.bytes)) = some (some .nilFunc, 1, 8) := by kernel_rfl
abbrev fnsA : List Sh := [.fn (.func 162) [] [], .fn (.func 163) [] [], .fn (.func 164) [] [], .fn (.func 165) [] []]
theorem ok_aMakes : Ok 161 [] (.agg fnsA) := by
  refine ok_of_tr Try.func161 tr_aMakes rfl ?_
  unfold evFn sc_aMakes rv_aMakes
  refine eS fun _ hn1 _ _ => ?_;refine eO fun _ hk2 => ?_;refine tL0 ?_;refine hk2 _ ?_;refine hn1 (some ([0], none)) _ ?_;refine eS fun _ hn3 _ _ => ?_;refine eO fun _ hk4 => ?_;refine tZ0 ?_;refine hk4 _ ?_;refine hn3 (some ([0], none)) _ ?_
  exact sf0
theorem enters_aF1 : Enters 162 := callFunc_enter Try.func162 rfl rfl
theorem enters_aF2 : Enters 163 := callFunc_enter Try.func163 rfl rfl
theorem enters_aF3 : Enters 164 := callFunc_enter Try.func164 rfl rfl
theorem enters_aF4 : Enters 165 := callFunc_enter Try.func165 rfl rfl
set_option maxHeartbeats 2000000 in
theorem ok_aDo (o : OpV) (v : Int) : Ok 160 [.agg (eOp o), sI v] (.tup [sI (doA o v).1, sI (doA o v).2]) := by
  refine ok_of_tr Try.func160 tr_aDo rfl ?_
  have k0 := ok_aCheck o
  unfold doA
  by_cases h : checkA o = 0
  case neg =>
    rw [if_neg h]
    have d : (checkA o != 0) = true := by simpa using h
    generalize checkA o = e at k0 d
    unfold evFn sc_aDo rv_aDo
    have F1 := @d
    refine eS fun K1 hn1 hr1 he1 => ?_;refine eO fun K2 hk2 => ?_;refine tL F1 ?_;refine hk2 _ ?_;refine hn1 (some ([1,2], none)) _ ?_;refine eS fun K3 hn3 hr3 he3 => ?_;refine eS fun K4 hn4 hr4 he4 => ?_;refine eO fun K5 hk5 => ?_;refine tC 1 F1 ?_;refine tS 1 F1 ?_;refine Or.inl (Or.inl ⟨_, k0, ?_⟩);refine tZ F1 ?_;refine hk5 _ ?_;refine hn4 (some ([1,2,8], none)) _ ?_;refine eCt ?_;refine eS fun K6 hn6 hr6 he6 => ?_;refine eO fun K7 hk7 => ?_;refine tL F1 ?_;refine hk7 _ ?_;refine hn6 (some ([4,5], none)) _ ?_;refine hr3 _ ?_
    exact sf1 F1
  rw [if_pos h]
  rw [h] at k0
  obtain ⟨⟨h1, h2⟩, _⟩ := checkA_zero h
  clear h
  obtain ⟨kd, lc, n⟩ := o
  simp only at h1 h2 k0 ⊢
  have ka : ∀ w, (isAgg 279).run Try.prog w = .ok false w := Try.isAgg279
  obtain ⟨iF, hiF, _, hsF, _⟩ := info_parts infoFnI
  have hcase : kd = 0 ∨ kd = 1 ∨ kd = 2 ∨ kd = 3 := by omega
  rcases hcase with rfl | rfl | rfl | rfl
  · skip
    unfold evFn sc_aDo rv_aDo
    refine eS fun K1 hn1 hr1 he1 => ?_;refine eO fun K2 hk2 => ?_;refine tL0 ?_;refine hk2 _ ?_;refine hn1 (some ([1,2], none)) _ ?_;refine eS fun K3 hn3 hr3 he3 => ?_;refine eS fun K4 hn4 hr4 he4 => ?_;refine eO fun K5 hk5 => ?_;refine tC0 1 ?_;refine tS0 1 ?_;refine Or.inl (Or.inl ⟨_, k0, ?_⟩);refine tZ0 ?_;refine hk5 _ ?_;refine hn4 (some ([1,2,8], none)) _ ?_;refine eCf ?_;refine hn3 (some ([1,2], none)) _ ?_;refine eS fun K6 hn6 hr6 he6 => ?_;refine eD [] (n := 9) fun K7 hk7 => ?_;refine sq0 ?_;refine fS0 1 ?_;refine ⟨_, ok_aMakes, ?_⟩;refine fC0 2 ?_;refine fS0 1 ?_;refine ⟨_, gen_index1 (n := 0) Try.underlying280 hiF hsF ka (by decide) (by decide) rfl, ?_⟩;refine fC0 3 ?_;refine fS0 1 ?_;refine ⟨enters_aF1, _, ok_aF1 v n, ?_⟩;refine fL0 ?_;refine hk7 _ ?_;refine sr0 ?_;refine tL0 ?_;refine hn6 (some ([4,5], none)) _ ?_
    exact sf0
  · skip
    unfold evFn sc_aDo rv_aDo
    refine eS fun K1 hn1 hr1 he1 => ?_;refine eO fun K2 hk2 => ?_;refine tL0 ?_;refine hk2 _ ?_;refine hn1 (some ([1,2], none)) _ ?_;refine eS fun K3 hn3 hr3 he3 => ?_;refine eS fun K4 hn4 hr4 he4 => ?_;refine eO fun K5 hk5 => ?_;refine tC0 1 ?_;refine tS0 1 ?_;refine Or.inl (Or.inl ⟨_, k0, ?_⟩);refine tZ0 ?_;refine hk5 _ ?_;refine hn4 (some ([1,2,8], none)) _ ?_;refine eCf ?_;refine hn3 (some ([1,2], none)) _ ?_;refine eS fun K6 hn6 hr6 he6 => ?_;refine eD [] (n := 9) fun K7 hk7 => ?_;refine sq0 ?_;refine fS0 1 ?_;refine ⟨_, ok_aMakes, ?_⟩;refine fC0 2 ?_;refine fS0 1 ?_;refine ⟨_, gen_index1 (n := 1) Try.underlying280 hiF hsF ka (by decide) (by decide) rfl, ?_⟩;refine fC0 3 ?_;refine fS0 1 ?_;refine ⟨enters_aF2, _, ok_aF2 v n, ?_⟩;refine fL0 ?_;refine hk7 _ ?_;refine sr0 ?_;refine tL0 ?_;refine hn6 (some ([4,5], none)) _ ?_
    exact sf0
  · skip
    unfold evFn sc_aDo rv_aDo
    refine eS fun K1 hn1 hr1 he1 => ?_;refine eO fun K2 hk2 => ?_;refine tL0 ?_;refine hk2 _ ?_;refine hn1 (some ([1,2], none)) _ ?_;refine eS fun K3 hn3 hr3 he3 => ?_;refine eS fun K4 hn4 hr4 he4 => ?_;refine eO fun K5 hk5 => ?_;refine tC0 1 ?_;refine tS0 1 ?_;refine Or.inl (Or.inl ⟨_, k0, ?_⟩);refine tZ0 ?_;refine hk5 _ ?_;refine hn4 (some ([1,2,8], none)) _ ?_;refine eCf ?_;refine hn3 (some ([1,2], none)) _ ?_;refine eS fun K6 hn6 hr6 he6 => ?_;refine eD [] (n := 9) fun K7 hk7 => ?_;refine sq0 ?_;refine fS0 1 ?_;refine ⟨_, ok_aMakes, ?_⟩;refine fC0 2 ?_;refine fS0 1 ?_;refine ⟨_, gen_index1 (n := 2) Try.underlying280 hiF hsF ka (by decide) (by decide) rfl, ?_⟩;refine fC0 3 ?_;refine fS0 1 ?_;refine ⟨enters_aF3, _, ok_aF3 v n, ?_⟩;refine fL0 ?_;refine hk7 _ ?_;refine sr0 ?_;refine tL0 ?_;refine hn6 (some ([4,5], none)) _ ?_
    exact sf0
  · skip
    unfold evFn sc_aDo rv_aDo
    refine eS fun K1 hn1 hr1 he1 => ?_;refine eO fun K2 hk2 => ?_;refine tL0 ?_;refine hk2 _ ?_;refine hn1 (some ([1,2], none)) _ ?_;refine eS fun K3 hn3 hr3 he3 => ?_;refine eS fun K4 hn4 hr4 he4 => ?_;refine eO fun K5 hk5 => ?_;refine tC0 1 ?_;refine tS0 1 ?_;refine Or.inl (Or.inl ⟨_, k0, ?_⟩);refine tZ0 ?_;refine hk5 _ ?_;refine hn4 (some ([1,2,8], none)) _ ?_;refine eCf ?_;refine hn3 (some ([1,2], none)) _ ?_;refine eS fun K6 hn6 hr6 he6 => ?_;refine eD [] (n := 9) fun K7 hk7 => ?_;refine sq0 ?_;refine fS0 1 ?_;refine ⟨_, ok_aMakes, ?_⟩;refine fC0 2 ?_;refine fS0 1 ?_;refine ⟨_, gen_index1 (n := 3) Try.underlying280 hiF hsF ka (by decide) (by decide) rfl, ?_⟩;refine fC0 3 ?_;refine fS0 1 ?_;refine ⟨enters_aF4, _, ok_aF4 v n, ?_⟩;refine fL0 ?_;refine hk7 _ ?_;refine sr0 ?_;refine tL0 ?_;refine hn6 (some ([4,5], none)) _ ?_
    exact sf0
structure AtmV where
  op : OpV
  begun : Bool
  swapped : Bool
  fin : Bool
  tries : Int
  answer : Int
abbrev cAtm (s : AtmV) : List Sh := [sI s.op.kind, sI s.op.loc, sI s.op.n, sB s.begun, sB s.swapped, sB s.fin, sI s.tries, sI s.answer]
def atmNext (s : AtmV) (g : GotV) : AtmV × ActM × Bool :=
  if s.fin = true then (s, zAct, true)
  else if s.begun = false then ({ s with begun := true }, ⟨5, s.op.loc, zWord, zWord⟩, false)
  else if s.swapped = true ∧ g.ok = true then ({ s with tries := s.tries + 1, fin := true, answer := g.word.val }, zAct, true)
  else if (doA s.op g.word.val).1 = g.word.val then ({ s with tries := if s.swapped = true then s.tries + 1 else s.tries, fin := true, answer := (doA s.op g.word.val).2 }, zAct, true)
  else ({ s with tries := if s.swapped = true then s.tries + 1 else s.tries, swapped := true }, ⟨6, s.op.loc, g.word, { g.word with val := (doA s.op g.word.val).1 }⟩, false)
set_option maxHeartbeats 8000000 in
theorem ok_aNext (s : AtmV) (g : GotV) {n : Nat} (hs : 0 ≤ s.tries ∧ s.tries ≤ n) (hn : n ≤ 900) : Ok 159 [.agg (cAtm s), .agg (eGot g)] (.tup [.ifc 175 (.agg (cAtm (atmNext s g).1)), .agg (eAct4 (atmNext s g).2.1), sB (atmNext s g).2.2]) := by
  refine ok_of_tr Try.func159 tr_aNext rfl ?_
  obtain ⟨op, begun, swapped, done, tries, answer⟩ := s
  have kd := ok_aDo op g.word.val
  obtain ⟨kind, loc, m⟩ := op
  obtain ⟨⟨val, ver, ref⟩, ok⟩ := g
  simp only at hs
  unfold atmNext
  simp only at kd ⊢
  cases done
  case true =>
    rw [if_pos rfl]
    unfold evFn sc_aNext rv_aNext
    refine eS fun K1 hn1 hr1 he1 => ?_;refine eO fun K2 hk2 => ?_;refine tL0 ?_;refine hk2 _ ?_;refine hn1 (some ([2,3,5], none)) _ ?_;refine eS fun K3 hn3 hr3 he3 => ?_;refine eB fun K4 hn4 hx4 hr4 he4 => ?_;refine eS fun K5 hn5 hr5 he5 => ?_;refine eO fun K6 hk6 => ?_;refine tC0 2 ?_;refine tL0 ?_;refine hk6 _ ?_;refine hn5 (some ([2,3,5,10], none)) _ ?_;refine eCt ?_;refine eS fun K7 hn7 hr7 he7 => ?_;refine eO fun K8 hk8 => ?_;refine tC0 1 ?_;refine tC0 4 ?_;refine tL0 ?_;refine hk8 _ ?_;refine hn7 (some ([4,5,6], none)) _ ?_;refine hr4 _ ?_;refine hr3 _ ?_;refine sg0 ?_
    rfl
  rw [if_neg (by simp)]
  cases begun
  case false =>
    rw [if_pos rfl]
    unfold evFn sc_aNext rv_aNext
    refine eS fun K1 hn1 hr1 he1 => ?_;refine eO fun K2 hk2 => ?_;refine tL0 ?_;refine hk2 _ ?_;refine hn1 (some ([2,3,5], none)) _ ?_;refine eS fun K3 hn3 hr3 he3 => ?_;refine eB fun K4 hn4 hx4 hr4 he4 => ?_;refine eS fun K5 hn5 hr5 he5 => ?_;refine eO fun K6 hk6 => ?_;refine tC0 2 ?_;refine tL0 ?_;refine hk6 _ ?_;refine hn5 (some ([2,3,5,10], none)) _ ?_;refine eCf ?_;refine eS fun K7 hn7 hr7 he7 => ?_;refine eO fun K8 hk8 => ?_;refine tC0 2 ?_;refine tL0 ?_;refine hk8 _ ?_;refine hn7 (some ([2,3,5,16], none)) _ ?_;refine eCt ?_;refine eS fun K9 hn9 hr9 he9 => ?_;refine eO fun K10 hk10 => ?_;refine tZ0 ?_;refine hk10 _ ?_;refine hn9 (some ([2,5], none)) _ ?_;refine eS fun K11 hn11 hr11 he11 => ?_;refine eD [] (n := 7) fun K12 hk12 => ?_;refine sq0 ?_;refine fC0 1 ?_;refine fC0 4 ?_;refine fL0 ?_;refine hk12 _ ?_;refine sr0 ?_;refine tC0 1 ?_;refine tL0 ?_;refine hn11 (some ([4,5,6], none)) _ ?_
    refine hr4 _ ?_;refine hr3 _ ?_;refine sg0 ?_
    rfl
  rw [if_neg (by simp)]
  have w1 : IntKind.i64.wrap (tries + 1) = tries + 1 := by rw [IntKind.wrap_i64]; omega
  by_cases hso : swapped = true ∧ ok = true
  · obtain ⟨rfl, rfl⟩ := hso
    rw [if_pos ⟨rfl, rfl⟩]
    unfold evFn sc_aNext rv_aNext
    have F1 := @w1
    refine eS fun K1 hn1 hr1 he1 => ?_;refine eO fun K2 hk2 => ?_;refine tL F1 ?_;refine hk2 _ ?_;refine hn1 (some ([2,3,5], none)) _ ?_;refine eS fun K3 hn3 hr3 he3 => ?_;refine eB fun K4 hn4 hx4 hr4 he4 => ?_;refine eS fun K5 hn5 hr5 he5 => ?_;refine eO fun K6 hk6 => ?_;refine tC 2 F1 ?_;refine tL F1 ?_;refine hk6 _ ?_;refine hn5 (some ([2,3,5,10], none)) _ ?_;refine eCf ?_;refine eS fun K7 hn7 hr7 he7 => ?_;refine eO fun K8 hk8 => ?_;refine tC 2 F1 ?_;refine tL F1 ?_;refine hk8 _ ?_;refine hn7 (some ([2,3,5,16], none)) _ ?_;refine eCf ?_;refine eS fun K9 hn9 hr9 he9 => ?_;refine eO fun K10 hk10 => ?_;refine tC 2 F1 ?_;refine tL F1 ?_;refine hk10 _ ?_;refine hn9 (some ([2,3,5,27], none)) _ ?_;refine eCt ?_;refine eS fun K11 hn11 hr11 he11 => ?_;refine eO fun K12 hk12 => ?_;refine tC 2 F1 ?_;refine tC 1 F1 ?_;refine tZ F1 ?_;refine hk12 _ ?_;refine hn11 (some ([2,3,5], none)) _ ?_;refine eS fun K13 hn13 hr13 he13 => ?_
    refine eO fun K14 hk14 => ?_;refine tZ F1 ?_;refine hk14 _ ?_;refine hn13 (some ([2,3,5,35], none)) _ ?_;refine eCt ?_;refine eS fun K15 hn15 hr15 he15 => ?_;refine eP ([]) [2,5] [0,1,2,3,5] [4,6] (by kernel_rfl) (fun K16 hk16 => ?_);refine sp0 ?_
    have F2 := And.intro F1 @shPP
    refine evP_take 3 fun K17 hk17 => ?_;refine sh1 F2 ?_;refine sd ?_;refine hk17 _ ?_;refine sh1 F2 ?_;refine hk16 _ (by rfl) (fun K18 hk18 => ?_);refine sp0 ?_;refine toKL ?_;refine tC 1 F2 ?_;refine tZ F2 ?_;refine hk18 _ ?_;refine so0 ?_;refine hn15 (some ([2,5], none)) _ ?_;refine eS fun K19 hn19 _ _ => ?_;refine eO fun K20 hk20 => ?_;refine tC 1 F2 ?_;refine tC 4 F2 ?_;refine tL F2 ?_;refine hk20 _ ?_;refine hn19 (some ([4,5,6], none)) _ ?_;refine hr4 _ ?_;refine hr3 _ ?_;refine sg1 F2 ?_
    rfl
  rw [if_neg hso]
  generalize doA ⟨kind, loc, m⟩ val = R at kd ⊢
  obtain ⟨r1, r2⟩ := R
  simp only at kd ⊢
  cases swapped
  · simp only [Bool.false_eq_true, if_false]
    by_cases h : r1 = val
    · subst h
      rw [if_pos rfl]
      unfold evFn sc_aNext rv_aNext
      refine eS fun K1 hn1 hr1 he1 => ?_;refine eO fun K2 hk2 => ?_;refine tL0 ?_;refine hk2 _ ?_;refine hn1 (some ([2,3,5], none)) _ ?_;refine eS fun K3 hn3 hr3 he3 => ?_;refine eB fun K4 hn4 hx4 hr4 he4 => ?_;refine eS fun K5 hn5 hr5 he5 => ?_;refine eO fun K6 hk6 => ?_;refine tC0 2 ?_;refine tL0 ?_;refine hk6 _ ?_;refine hn5 (some ([2,3,5,10], none)) _ ?_;refine eCf ?_;refine eS fun K7 hn7 hr7 he7 => ?_;refine eO fun K8 hk8 => ?_;refine tC0 2 ?_;refine tL0 ?_;refine hk8 _ ?_;refine hn7 (some ([2,3,5,16], none)) _ ?_;refine eCf ?_;refine eS fun K9 hn9 hr9 he9 => ?_;refine eO fun K10 hk10 => ?_;refine tC0 2 ?_;refine tL0 ?_;refine hk10 _ ?_;refine hn9 (some ([2,3,5,27], none)) _ ?_;refine eCf ?_;refine hn4 _ ?_;refine hn3 (some ([2,3,5], none)) _ ?_;refine eS fun K11 hn11 hr11 he11 => ?_;refine eO fun K12 hk12 => ?_;refine tC0 2 ?_;refine tC0 3 ?_;refine tS0 1 ?_;refine Or.inl (Or.inl ⟨_, kd, ?_⟩)
      refine tL0 ?_;refine hk12 _ ?_;refine hn11 (some ([2,3,5,7,8], none)) _ ?_;refine eS fun K13 hn13 hr13 he13 => ?_;refine eS fun K14 hn14 hr14 he14 => ?_;refine eO fun K15 hk15 => ?_;refine tC0 4 ?_;refine tZ0 ?_;refine hk15 _ ?_;refine hn14 (some ([2,3,5,7,8,57], none)) _ ?_;refine eCt ?_;refine eS fun K16 hn16 hr16 he16 => ?_;refine eO fun K17 hk17 => ?_;refine tC0 3 ?_;refine tZ0 ?_;refine hk17 _ ?_;refine hn16 (some ([2,5], none)) _ ?_;refine eS fun K18 hn18 hr18 he18 => ?_;refine eO fun K19 hk19 => ?_;refine tC0 1 ?_;refine tC0 4 ?_;refine tL0 ?_;refine hk19 _ ?_;refine hn18 (some ([4,5,6], none)) _ ?_;refine hr13 _ ?_;refine sg0 ?_
      rfl
    · rw [if_neg h]
      have d : (r1 == val) = false := by simpa using h
      unfold evFn sc_aNext rv_aNext
      have F1 := @d
      refine eS fun K1 hn1 hr1 he1 => ?_;refine eO fun K2 hk2 => ?_;refine tL F1 ?_;refine hk2 _ ?_;refine hn1 (some ([2,3,5], none)) _ ?_;refine eS fun K3 hn3 hr3 he3 => ?_;refine eB fun K4 hn4 hx4 hr4 he4 => ?_;refine eS fun K5 hn5 hr5 he5 => ?_;refine eO fun K6 hk6 => ?_;refine tC 2 F1 ?_;refine tL F1 ?_;refine hk6 _ ?_;refine hn5 (some ([2,3,5,10], none)) _ ?_;refine eCf ?_;refine eS fun K7 hn7 hr7 he7 => ?_;refine eO fun K8 hk8 => ?_;refine tC 2 F1 ?_;refine tL F1 ?_;refine hk8 _ ?_;refine hn7 (some ([2,3,5,16], none)) _ ?_;refine eCf ?_;refine eS fun K9 hn9 hr9 he9 => ?_;refine eO fun K10 hk10 => ?_;refine tC 2 F1 ?_;refine tL F1 ?_;refine hk10 _ ?_;refine hn9 (some ([2,3,5,27], none)) _ ?_;refine eCf ?_;refine hn4 _ ?_;refine hn3 (some ([2,3,5], none)) _ ?_;refine eS fun K11 hn11 hr11 he11 => ?_;refine eO fun K12 hk12 => ?_;refine tC 2 F1 ?_;refine tC 3 F1 ?_;refine tS 1 F1 ?_;refine Or.inl (Or.inl ⟨_, kd, ?_⟩)
      refine tL F1 ?_;refine hk12 _ ?_;refine hn11 (some ([2,3,5,7,8], none)) _ ?_;refine eS fun K13 hn13 hr13 he13 => ?_;refine eS fun K14 hn14 hr14 he14 => ?_;refine eO fun K15 hk15 => ?_;refine tC 4 F1 ?_;refine tZ F1 ?_;refine hk15 _ ?_;refine hn14 (some ([2,3,5,7,8,57], none)) _ ?_;refine eCf ?_;refine hn13 (some ([2,3,5,7], none)) _ ?_;refine eS fun K16 hn16 hr16 he16 => ?_;refine eO fun K17 hk17 => ?_;refine tC 2 F1 ?_;refine tZ F1 ?_;refine hk17 _ ?_;refine hn16 (some ([2,3,5,7,9], none)) _ ?_;refine eS fun K18 hn18 hr18 he18 => ?_;refine eO fun K19 hk19 => ?_;refine tZ F1 ?_;refine hk19 _ ?_;refine hn18 (some ([2,3,5,9], none)) _ ?_;refine eS fun K20 hn20 hr20 he20 => ?_;refine eO fun K21 hk21 => ?_;refine tZ F1 ?_;refine hk21 _ ?_;refine hn20 (some ([2,3,5,9], none)) _ ?_;refine eS fun K22 hn22 hr22 he22 => ?_;refine eD [] (n := 10) fun K23 hk23 => ?_;refine sq0 ?_;refine fC 1 F1 ?_
      refine fC 4 F1 ?_;refine fC 2 F1 ?_;refine fC 1 F1 ?_;refine fL F1 ?_;refine hk23 _ ?_;refine sr0 ?_;refine tC 1 F1 ?_;refine tL F1 ?_;refine hn22 (some ([4,5,6], none)) _ ?_
      exact sf1 F1
  · have hok : ok = false := by cases ok; rfl; exact absurd ⟨rfl, rfl⟩ hso
    subst hok
    simp only [if_true]
    by_cases h : r1 = val
    · subst h
      rw [if_pos rfl]
      unfold evFn sc_aNext rv_aNext
      have F1 := @w1
      refine eS fun K1 hn1 hr1 he1 => ?_;refine eO fun K2 hk2 => ?_;refine tL F1 ?_;refine hk2 _ ?_;refine hn1 (some ([2,3,5], none)) _ ?_;refine eS fun K3 hn3 hr3 he3 => ?_;refine eB fun K4 hn4 hx4 hr4 he4 => ?_;refine eS fun K5 hn5 hr5 he5 => ?_;refine eO fun K6 hk6 => ?_;refine tC 2 F1 ?_;refine tL F1 ?_;refine hk6 _ ?_;refine hn5 (some ([2,3,5,10], none)) _ ?_;refine eCf ?_;refine eS fun K7 hn7 hr7 he7 => ?_;refine eO fun K8 hk8 => ?_;refine tC 2 F1 ?_;refine tL F1 ?_;refine hk8 _ ?_;refine hn7 (some ([2,3,5,16], none)) _ ?_;refine eCf ?_;refine eS fun K9 hn9 hr9 he9 => ?_;refine eO fun K10 hk10 => ?_;refine tC 2 F1 ?_;refine tL F1 ?_;refine hk10 _ ?_;refine hn9 (some ([2,3,5,27], none)) _ ?_;refine eCt ?_;refine eS fun K11 hn11 hr11 he11 => ?_;refine eO fun K12 hk12 => ?_;refine tC 2 F1 ?_;refine tC 1 F1 ?_;refine tZ F1 ?_;refine hk12 _ ?_;refine hn11 (some ([2,3,5], none)) _ ?_;refine eS fun K13 hn13 hr13 he13 => ?_
      refine eO fun K14 hk14 => ?_;refine tZ F1 ?_;refine hk14 _ ?_;refine hn13 (some ([2,3,5,35], none)) _ ?_;refine eCf ?_;refine hn4 _ ?_;refine hn3 (some ([2,3,5], none)) _ ?_;refine eS fun K15 hn15 hr15 he15 => ?_;refine eO fun K16 hk16 => ?_;refine tC 2 F1 ?_;refine tC 3 F1 ?_;refine tS 1 F1 ?_;refine Or.inl (Or.inl ⟨_, kd, ?_⟩);refine tL F1 ?_;refine hk16 _ ?_;refine hn15 (some ([2,3,5,7,8], none)) _ ?_;refine eS fun K17 hn17 hr17 he17 => ?_;refine eS fun K18 hn18 hr18 he18 => ?_;refine eO fun K19 hk19 => ?_;refine tC 4 F1 ?_;refine tZ F1 ?_;refine hk19 _ ?_;refine hn18 (some ([2,3,5,7,8,57], none)) _ ?_;refine eCt ?_;refine eS fun K20 hn20 hr20 he20 => ?_;refine eO fun K21 hk21 => ?_;refine tC 3 F1 ?_;refine tZ F1 ?_;refine hk21 _ ?_;refine hn20 (some ([2,5], none)) _ ?_;refine eS fun K22 hn22 hr22 he22 => ?_;refine eO fun K23 hk23 => ?_;refine tC 1 F1 ?_;refine tC 4 F1 ?_;refine tL F1 ?_
      refine hk23 _ ?_;refine hn22 (some ([4,5,6], none)) _ ?_;refine hr17 _ ?_;refine sg1 F1 ?_
      rfl
    · rw [if_neg h]
      have d : (r1 == val) = false := by simpa using h
      unfold evFn sc_aNext rv_aNext
      have F1 := And.intro @w1 @d
      refine eS fun K1 hn1 hr1 he1 => ?_;refine eO fun K2 hk2 => ?_;refine tL F1 ?_;refine hk2 _ ?_;refine hn1 (some ([2,3,5], none)) _ ?_;refine eS fun K3 hn3 hr3 he3 => ?_;refine eB fun K4 hn4 hx4 hr4 he4 => ?_;refine eS fun K5 hn5 hr5 he5 => ?_;refine eO fun K6 hk6 => ?_;refine tC 2 F1 ?_;refine tL F1 ?_;refine hk6 _ ?_;refine hn5 (some ([2,3,5,10], none)) _ ?_;refine eCf ?_;refine eS fun K7 hn7 hr7 he7 => ?_;refine eO fun K8 hk8 => ?_;refine tC 2 F1 ?_;refine tL F1 ?_;refine hk8 _ ?_;refine hn7 (some ([2,3,5,16], none)) _ ?_;refine eCf ?_;refine eS fun K9 hn9 hr9 he9 => ?_;refine eO fun K10 hk10 => ?_;refine tC 2 F1 ?_;refine tL F1 ?_;refine hk10 _ ?_;refine hn9 (some ([2,3,5,27], none)) _ ?_;refine eCt ?_;refine eS fun K11 hn11 hr11 he11 => ?_;refine eO fun K12 hk12 => ?_;refine tC 2 F1 ?_;refine tC 1 F1 ?_;refine tZ F1 ?_;refine hk12 _ ?_;refine hn11 (some ([2,3,5], none)) _ ?_;refine eS fun K13 hn13 hr13 he13 => ?_
      refine eO fun K14 hk14 => ?_;refine tZ F1 ?_;refine hk14 _ ?_;refine hn13 (some ([2,3,5,35], none)) _ ?_;refine eCf ?_;refine hn4 _ ?_;refine hn3 (some ([2,3,5], none)) _ ?_;refine eS fun K15 hn15 hr15 he15 => ?_;refine eO fun K16 hk16 => ?_;refine tC 2 F1 ?_;refine tC 3 F1 ?_;refine tS 1 F1 ?_;refine Or.inl (Or.inl ⟨_, kd, ?_⟩);refine tL F1 ?_;refine hk16 _ ?_;refine hn15 (some ([2,3,5,7,8], none)) _ ?_;refine eS fun K17 hn17 hr17 he17 => ?_;refine eS fun K18 hn18 hr18 he18 => ?_;refine eO fun K19 hk19 => ?_;refine tC 4 F1 ?_;refine tZ F1 ?_;refine hk19 _ ?_;refine hn18 (some ([2,3,5,7,8,57], none)) _ ?_;refine eCf ?_;refine hn17 (some ([2,3,5,7], none)) _ ?_;refine eS fun K20 hn20 hr20 he20 => ?_;refine eO fun K21 hk21 => ?_;refine tC 2 F1 ?_;refine tZ F1 ?_;refine hk21 _ ?_;refine hn20 (some ([2,3,5,7,9], none)) _ ?_;refine eS fun K22 hn22 hr22 he22 => ?_;refine eO fun K23 hk23 => ?_
      refine tZ F1 ?_;refine hk23 _ ?_;refine hn22 (some ([2,3,5,9], none)) _ ?_;refine eS fun _ hn24 _ _ => ?_;refine eO fun _ hk25 => ?_;refine tZ F1 ?_;refine hk25 _ ?_;refine hn24 (some ([2,3,5,9], none)) _ ?_;refine eS fun _ hn26 _ _ => ?_;refine eD [] (n := 10) fun _ hk27 => ?_;refine sq0 ?_;refine fC 1 F1 ?_;refine fC 4 F1 ?_;refine fC 2 F1 ?_;refine fC 1 F1 ?_;refine fL F1 ?_;refine hk27 _ ?_;refine sr0 ?_;refine tC 1 F1 ?_;refine tL F1 ?_;refine hn26 (some ([4,5,6], none)) _ ?_
      exact sf1 F1
theorem next_atm : MethodIs 175 "Next" 159 := by intro v w; kernel_rfl
theorem enters_atm : Enters 159 := callFunc_enter Try.func159 rfl rfl
theorem atm_tries (s : AtmV) (g : GotV) : (atmNext s g).1.tries = s.tries ∨ (atmNext s g).1.tries = s.tries + 1 := by
  unfold atmNext
  split
  · exact .inl rfl
  · split
    · exact .inl rfl
    · split
      · exact .inr rfl
      · have h : (if s.swapped = true then s.tries + 1 else s.tries) = s.tries ∨ (if s.swapped = true then s.tries + 1 else s.tries) = s.tries + 1 := by
          split
          · exact .inr rfl
          · exact .inl rfl
        split
        · exact h
        · exact h
abbrev atm : Coder where
  St := AtmV
  enc s := .ifc 175 (.agg (cAtm s))
  next := atmNext
  good n s := 0 ≤ s.tries ∧ s.tries ≤ n
  up h h' := ⟨h.1, by omega⟩
  keeps {n s} g h := by
    have := atm_tries s g
    exact ⟨by rcases this with e | e <;> omega, by rcases this with e | e <;> omega⟩
  shape s := ⟨_, _, rfl⟩
instance : CoRuns atm := ⟨fun g h hn => ⟨_, _, _, rfl, next_atm, enters_atm, ok_aNext _ g h hn⟩⟩
def newA (o : OpV) : AtmV := ⟨o, false, false, false, 0, 0⟩
theorem ok_aNew (o : OpV) : Ok 67 [.agg (eOp o)] (if checkA o = 0 then .tup [.ifc 175 (.agg (cAtm (newA o))), sI 0] else .tup [.v .nilIface, sI (checkA o)]) := by
  refine ok_of_tr Try.func67 tr_aNew rfl ?_
  have k0 := ok_aCheck o
  by_cases h : checkA o = 0
  · rw [if_pos h]
    rw [h] at k0
    unfold evFn sc_aNew rv_aNew
    refine eS fun K1 hn1 hr1 he1 => ?_;refine eO fun K2 hk2 => ?_;refine tL0 ?_;refine hk2 _ ?_;refine hn1 (some ([1], none)) _ ?_;refine eS fun K3 hn3 hr3 he3 => ?_;refine eS fun K4 hn4 hr4 he4 => ?_;refine eO fun K5 hk5 => ?_;refine tC0 1 ?_;refine tS0 1 ?_;refine Or.inl (Or.inl ⟨_, k0, ?_⟩);refine tL0 ?_;refine hk5 _ ?_;refine hn4 (some ([1,4], none)) _ ?_;refine eS fun K6 hn6 hr6 he6 => ?_;refine eO fun K7 hk7 => ?_;refine tZ0 ?_;refine hk7 _ ?_;refine hn6 (some ([1,4,8], none)) _ ?_;refine eCf ?_;refine hn3 (some ([1], none)) _ ?_;refine eS fun K8 hn8 hr8 he8 => ?_;refine eO fun K9 hk9 => ?_;refine tC0 1 ?_;refine tL0 ?_;refine hk9 _ ?_;refine hn8 (some ([2,3], none)) _ ?_
    exact sf0
  · rw [if_neg h]
    have d : (checkA o != 0) = true := by simpa using h
    generalize checkA o = e at k0 d ⊢
    unfold evFn sc_aNew rv_aNew
    have F1 := @d
    refine eS fun K1 hn1 hr1 he1 => ?_;refine eO fun K2 hk2 => ?_;refine tL F1 ?_;refine hk2 _ ?_;refine hn1 (some ([1], none)) _ ?_;refine eS fun K3 hn3 hr3 he3 => ?_;refine eS fun K4 hn4 hr4 he4 => ?_;refine eO fun K5 hk5 => ?_;refine tC 1 F1 ?_;refine tS 1 F1 ?_;refine Or.inl (Or.inl ⟨_, k0, ?_⟩);refine tL F1 ?_;refine hk5 _ ?_;refine hn4 (some ([1,4], none)) _ ?_;refine eS fun K6 hn6 hr6 he6 => ?_;refine eO fun K7 hk7 => ?_;refine tZ F1 ?_;refine hk7 _ ?_;refine hn6 (some ([1,4,8], none)) _ ?_;refine eCt ?_;refine eS fun K8 hn8 hr8 he8 => ?_;refine eO fun K9 hk9 => ?_;refine tL F1 ?_;refine hk9 _ ?_;refine hn8 (some ([2,3], none)) _ ?_;refine hr3 _ ?_
    exact sf1 F1
theorem ok_aAnswer (s : AtmV) : Ok 32 [.ifc 175 (.agg (cAtm s))] (.tup [sI (if s.fin = true then s.answer else 0), sB s.fin]) := by
  refine ok_of_tr Try.func32 tr_aAnswer rfl ?_
  obtain ⟨op, begun, swapped, done, tries, answer⟩ := s
  cases done
  · skip
    unfold evFn sc_aAnswer rv_aAnswer
    refine eS fun K1 hn1 hr1 he1 => ?_;refine eO fun K2 hk2 => ?_;refine tL0 ?_;refine hk2 _ ?_;refine hn1 (some ([0], none)) _ ?_;refine eS fun K3 hn3 hr3 he3 => ?_;refine eO fun K4 hk4 => ?_;refine tS0 1 ?_;refine tS0 1 ?_;refine Or.inl ⟨_, gen_asr_yes Try.underlying175 rfl, ?_⟩;refine tC0 5 ?_;refine tL0 ?_;refine hk4 _ ?_;refine hn3 (some ([4,5], none)) _ ?_;refine eS fun K5 hn5 hr5 he5 => ?_;refine eS fun K6 hn6 hr6 he6 => ?_;refine eO fun K7 hk7 => ?_;refine tC0 5 ?_;refine tL0 ?_;refine hk7 _ ?_;refine hn6 (some ([4,17], none)) _ ?_;refine eCt ?_;refine eS fun K8 hn8 hr8 he8 => ?_;refine eO fun K9 hk9 => ?_;refine tL0 ?_;refine hk9 _ ?_;refine hn8 (some ([2,3], none)) _ ?_;refine hr5 _ ?_
    exact sf0
  · skip
    unfold evFn sc_aAnswer rv_aAnswer
    refine eS fun K1 hn1 hr1 he1 => ?_;refine eO fun K2 hk2 => ?_;refine tL0 ?_;refine hk2 _ ?_;refine hn1 (some ([0], none)) _ ?_;refine eS fun K3 hn3 hr3 he3 => ?_;refine eO fun K4 hk4 => ?_;refine tS0 1 ?_;refine tS0 1 ?_;refine Or.inl ⟨_, gen_asr_yes Try.underlying175 rfl, ?_⟩;refine tC0 5 ?_;refine tL0 ?_;refine hk4 _ ?_;refine hn3 (some ([4,5], none)) _ ?_;refine eS fun K5 hn5 hr5 he5 => ?_;refine eS fun K6 hn6 hr6 he6 => ?_;refine eO fun K7 hk7 => ?_;refine tC0 5 ?_;refine tL0 ?_;refine hk7 _ ?_;refine hn6 (some ([4,17], none)) _ ?_;refine eCf ?_;refine hn5 (some ([4], none)) _ ?_;refine eS fun K8 hn8 hr8 he8 => ?_;refine eO fun K9 hk9 => ?_;refine tC0 2 ?_;refine tL0 ?_;refine hk9 _ ?_;refine hn8 (some ([2,3], none)) _ ?_
    exact sf0
end Go.Proofs.Ytenbagffdlljdaa
