/-
  Layer 10 by shadows: the helpers of the laws.
-/
import Derived.Test.YtenbagffdlljdaaK10a
import Derived.Test.YtenbagffdlljdaaK9
import Derived.Test.YtenbagffdlljdaaSc10l
import Derived.Test.YtenbagffdlljdaaMC
namespace Go.Proofs.Ytenbagffdlljdaa
set_option linter.unusedSimpArgs false
set_option linter.unusedVariables false
open Go.RowKit Go.Maps
theorem eqsh_bool_refl (a : Bool) : EqSh 4 (sB a) (sB a) true := by simpa using eqsh_bool a a
theorem bit_loc (x : Int) : bitsI .and .i64 x 1 = x % 2 := by
  have e : (BitVec.ofInt 64 x &&& BitVec.ofInt 64 1).toNat = (x % 2).toNat := by
    rw [BitVec.toNat_and, BitVec.toNat_ofInt]
    have : (BitVec.ofInt 64 1).toNat = 1 := rfl
    rw [this, Nat.and_one_is_mod]
    omega
  show IntKind.i64.wrap ((BitVec.ofInt 64 x &&& BitVec.ofInt 64 1).toNat : Int) = x % 2
  rw [e, IntKind.wrap_i64]
  omega
structure RunV where
  w0 : WordV
  w1 : WordV
  go : Nat
  ops : List OpV
  gp : Nat
  picks : List PickV
abbrev cRun (r : RunV) : List Sh := [sI r.w0.val, sU r.w0.ver, sU r.w0.ref, sI r.w1.val, sU r.w1.ver, sU r.w1.ref, .sl 3 r.go (r.ops.map eOp), .sl 3 r.gp (r.picks.map ePick)]
def greatR (r : RunV) : Bool := decide (3 < r.ops.length ∨ r.ops.length = 0 ∨ 120 < r.picks.length)
theorem ok_l10Great (r : RunV) : Ok 26 [.agg (cRun r)] (sB (greatR r)) := by
  refine ok_of_tr Try.func26 tr_l10Great rfl ?_
  unfold greatR
  by_cases h1 : (3 : Int) < (r.ops.length : Int)
  · rw [decide_eq_true (.inl (by omega))]
    unfold evFn sc_l10Great rv_l10Great
    have F1 := @h1
    refine eS fun K1 hn1 hr1 he1 => ?_;refine eO fun K2 hk2 => ?_;refine tL F1 ?_;refine hk2 _ ?_;refine hn1 (some ([1], none)) _ ?_;refine eS fun K3 hn3 hr3 he3 => ?_;refine eO fun K4 hk4 => ?_;refine tC 2 F1 ?_;refine tC 2 F1 ?_;refine tC 3 F1 ?_;refine tC 2 F1 ?_;refine tC 4 F1 ?_;refine tC 2 F1 ?_;refine tL F1 ?_;refine hk4 _ ?_;refine hn3 (some ([2], none)) _ ?_
    exact sf1 F1
  by_cases h2 : r.ops.length = 0
  · rw [decide_eq_true (.inr (.inl h2))]
    have h3 : ((r.ops.length : Int) == 0) = true := by rw [h2]; rfl
    unfold evFn sc_l10Great rv_l10Great
    have F1 := And.intro @h1 @h3
    refine eS fun K1 hn1 hr1 he1 => ?_;refine eO fun K2 hk2 => ?_;refine tL F1 ?_;refine hk2 _ ?_;refine hn1 (some ([1], none)) _ ?_;refine eS fun K3 hn3 hr3 he3 => ?_;refine eO fun K4 hk4 => ?_;refine tC 2 F1 ?_;refine tC 2 F1 ?_;refine tC 3 F1 ?_;refine tC 2 F1 ?_;refine tC 4 F1 ?_;refine tC 2 F1 ?_;refine tL F1 ?_;refine hk4 _ ?_;refine hn3 (some ([2], none)) _ ?_
    exact sf1 F1
  have h3 : ((r.ops.length : Int) == 0) = false := by simp only [beq_eq_false_iff_ne, ne_eq]; omega
  have h4 : decide (3 < r.ops.length ∨ r.ops.length = 0 ∨ 120 < r.picks.length) = decide ((120 : Int) < (r.picks.length : Int)) := decide_eq_decide.2 ⟨fun h => by omega, fun h => .inr (.inr (by omega))⟩
  rw [h4]
  unfold evFn sc_l10Great rv_l10Great
  have F1 := And.intro @h1 @h3
  refine eS fun K1 hn1 hr1 he1 => ?_;refine eO fun K2 hk2 => ?_;refine tL F1 ?_;refine hk2 _ ?_;refine hn1 (some ([1], none)) _ ?_;refine eS fun K3 hn3 hr3 he3 => ?_;refine eO fun K4 hk4 => ?_;refine tC 2 F1 ?_;refine tC 2 F1 ?_;refine tC 3 F1 ?_;refine tC 2 F1 ?_;refine tC 4 F1 ?_;refine tC 2 F1 ?_;refine tL F1 ?_;refine hk4 _ ?_;refine hn3 (some ([2], none)) _ ?_
  exact sf1 F1
theorem ok_r10Check (o : OpV) : Ok 98 [sI o.kind, sI o.loc, sI o.n] (sI (checkA o)) := by
  refine ok_of_tr Try.func98 tr_r10Check rfl ?_
  obtain ⟨kd, lc, n⟩ := o
  unfold checkA
  simp only
  by_cases h1 : kd < 0
  · rw [if_pos (.inl h1)]
    unfold evFn sc_r10Check rv_r10Check
    have F1 := @h1
    refine eS fun K1 hn1 hr1 he1 => ?_;refine eO fun K2 hk2 => ?_;refine tL F1 ?_;refine hk2 _ ?_;refine hn1 (some ([0,1,2], none)) _ ?_;refine eS fun K3 hn3 hr3 he3 => ?_;refine eS fun K4 hn4 hr4 he4 => ?_;refine eO fun K5 hk5 => ?_;refine tC 2 F1 ?_;refine tC 3 F1 ?_;refine tL F1 ?_;refine hk5 _ ?_;refine hn4 (some ([0,1,2,12], none)) _ ?_;refine eCt ?_;refine eS fun K6 hn6 hr6 he6 => ?_;refine eO fun K7 hk7 => ?_;refine tL F1 ?_;refine hk7 _ ?_;refine hn6 (some ([6], none)) _ ?_;refine hr3 _ ?_
    exact sf1 F1
  by_cases h2 : 3 < kd
  · rw [if_pos (.inr h2)]
    unfold evFn sc_r10Check rv_r10Check
    have F1 := And.intro @h1 @h2
    refine eS fun K1 hn1 hr1 he1 => ?_;refine eO fun K2 hk2 => ?_;refine tL F1 ?_;refine hk2 _ ?_;refine hn1 (some ([0,1,2], none)) _ ?_;refine eS fun K3 hn3 hr3 he3 => ?_;refine eS fun K4 hn4 hr4 he4 => ?_;refine eO fun K5 hk5 => ?_;refine tC 2 F1 ?_;refine tC 3 F1 ?_;refine tL F1 ?_;refine hk5 _ ?_;refine hn4 (some ([0,1,2,12], none)) _ ?_;refine eCt ?_;refine eS fun K6 hn6 hr6 he6 => ?_;refine eO fun K7 hk7 => ?_;refine tL F1 ?_;refine hk7 _ ?_;refine hn6 (some ([6], none)) _ ?_;refine hr3 _ ?_
    exact sf1 F1
  rw [if_neg (by omega)]
  by_cases h3 : lc < 0
  · rw [if_pos (.inl h3)]
    unfold evFn sc_r10Check rv_r10Check
    have F1 := And.intro @h1 (And.intro @h2 @h3)
    refine eS fun K1 hn1 hr1 he1 => ?_;refine eO fun K2 hk2 => ?_;refine tL F1 ?_;refine hk2 _ ?_;refine hn1 (some ([0,1,2], none)) _ ?_;refine eS fun K3 hn3 hr3 he3 => ?_;refine eS fun K4 hn4 hr4 he4 => ?_;refine eO fun K5 hk5 => ?_;refine tC 2 F1 ?_;refine tC 3 F1 ?_;refine tL F1 ?_;refine hk5 _ ?_;refine hn4 (some ([0,1,2,12], none)) _ ?_;refine eCf ?_;refine hn3 (some ([0,1,2], none)) _ ?_;refine eS fun K6 hn6 hr6 he6 => ?_;refine eS fun K7 hn7 hr7 he7 => ?_;refine eO fun K8 hk8 => ?_;refine tC 2 F1 ?_;refine tC 3 F1 ?_;refine tL F1 ?_;refine hk8 _ ?_;refine hn7 (some ([0,2,18], none)) _ ?_;refine eCt ?_;refine eS fun K9 hn9 hr9 he9 => ?_;refine eO fun K10 hk10 => ?_;refine tL F1 ?_;refine hk10 _ ?_;refine hn9 (some ([6], none)) _ ?_;refine hr6 _ ?_
    exact sf1 F1
  by_cases h4 : 4096 ≤ lc
  · rw [if_pos (.inr h4)]
    unfold evFn sc_r10Check rv_r10Check
    have F1 := And.intro @h1 (And.intro @h2 (And.intro @h3 @h4))
    refine eS fun K1 hn1 hr1 he1 => ?_;refine eO fun K2 hk2 => ?_;refine tL F1 ?_;refine hk2 _ ?_;refine hn1 (some ([0,1,2], none)) _ ?_;refine eS fun K3 hn3 hr3 he3 => ?_;refine eS fun K4 hn4 hr4 he4 => ?_;refine eO fun K5 hk5 => ?_;refine tC 2 F1 ?_;refine tC 3 F1 ?_;refine tL F1 ?_;refine hk5 _ ?_;refine hn4 (some ([0,1,2,12], none)) _ ?_;refine eCf ?_;refine hn3 (some ([0,1,2], none)) _ ?_;refine eS fun K6 hn6 hr6 he6 => ?_;refine eS fun K7 hn7 hr7 he7 => ?_;refine eO fun K8 hk8 => ?_;refine tC 2 F1 ?_;refine tC 3 F1 ?_;refine tL F1 ?_;refine hk8 _ ?_;refine hn7 (some ([0,2,18], none)) _ ?_;refine eCt ?_;refine eS fun K9 hn9 hr9 he9 => ?_;refine eO fun K10 hk10 => ?_;refine tL F1 ?_;refine hk10 _ ?_;refine hn9 (some ([6], none)) _ ?_;refine hr6 _ ?_
    exact sf1 F1
  rw [if_neg (by omega)]
  by_cases h5 : kd = 3
  case neg =>
    rw [if_neg (fun h => h5 h.1)]
    have d5 : (kd == 3) = false := by simpa using h5
    unfold evFn sc_r10Check rv_r10Check
    have F1 := And.intro @h1 (And.intro @h2 (And.intro @h3 (And.intro @h4 @d5)))
    refine eS fun K1 hn1 hr1 he1 => ?_;refine eO fun K2 hk2 => ?_;refine tL F1 ?_;refine hk2 _ ?_;refine hn1 (some ([0,1,2], none)) _ ?_;refine eS fun K3 hn3 hr3 he3 => ?_;refine eS fun K4 hn4 hr4 he4 => ?_;refine eO fun K5 hk5 => ?_;refine tC 2 F1 ?_;refine tC 3 F1 ?_;refine tL F1 ?_;refine hk5 _ ?_;refine hn4 (some ([0,1,2,12], none)) _ ?_;refine eCf ?_;refine hn3 (some ([0,1,2], none)) _ ?_;refine eS fun K6 hn6 hr6 he6 => ?_;refine eS fun K7 hn7 hr7 he7 => ?_;refine eO fun K8 hk8 => ?_;refine tC 2 F1 ?_;refine tC 3 F1 ?_;refine tL F1 ?_;refine hk8 _ ?_;refine hn7 (some ([0,2,18], none)) _ ?_;refine eCf ?_;refine hn6 (some ([0,2], none)) _ ?_;refine eS fun K9 hn9 hr9 he9 => ?_;refine eS fun K10 hn10 hr10 he10 => ?_;refine eO fun K11 hk11 => ?_;refine tC 2 F1 ?_;refine tC 3 F1 ?_;refine tL F1 ?_;refine hk11 _ ?_;refine hn10 (some ([24], none)) _ ?_;refine eCf ?_;refine hn9 (some ([], none)) _ ?_
    refine eS fun K12 hn12 hr12 he12 => ?_;refine eO fun K13 hk13 => ?_;refine tL F1 ?_;refine hk13 _ ?_;refine hn12 (some ([6], none)) _ ?_
    exact sf1 F1
  subst h5
  by_cases h6 : n = 0
  · subst h6
    rw [if_pos ⟨rfl, rfl⟩]
    unfold evFn sc_r10Check rv_r10Check
    have F1 := And.intro @h3 @h4
    refine eS fun K1 hn1 hr1 he1 => ?_;refine eO fun K2 hk2 => ?_;refine tL F1 ?_;refine hk2 _ ?_;refine hn1 (some ([0,1,2], none)) _ ?_;refine eS fun K3 hn3 hr3 he3 => ?_;refine eS fun K4 hn4 hr4 he4 => ?_;refine eO fun K5 hk5 => ?_;refine tC 2 F1 ?_;refine tC 3 F1 ?_;refine tL F1 ?_;refine hk5 _ ?_;refine hn4 (some ([0,1,2,12], none)) _ ?_;refine eCf ?_;refine hn3 (some ([0,1,2], none)) _ ?_;refine eS fun K6 hn6 hr6 he6 => ?_;refine eS fun K7 hn7 hr7 he7 => ?_;refine eO fun K8 hk8 => ?_;refine tC 2 F1 ?_;refine tC 3 F1 ?_;refine tL F1 ?_;refine hk8 _ ?_;refine hn7 (some ([0,2,18], none)) _ ?_;refine eCf ?_;refine hn6 (some ([0,2], none)) _ ?_;refine eS fun K9 hn9 hr9 he9 => ?_;refine eS fun K10 hn10 hr10 he10 => ?_;refine eO fun K11 hk11 => ?_;refine tC 2 F1 ?_;refine tC 3 F1 ?_;refine tL F1 ?_;refine hk11 _ ?_;refine hn10 (some ([24], none)) _ ?_;refine eCt ?_;refine eS fun K12 hn12 hr12 he12 => ?_
    refine eO fun K13 hk13 => ?_;refine tL F1 ?_;refine hk13 _ ?_;refine hn12 (some ([6], none)) _ ?_;refine hr9 _ ?_
    exact sf1 F1
  · rw [if_neg (fun h => h6 h.2)]
    have d6 : (n == 0) = false := by simpa using h6
    unfold evFn sc_r10Check rv_r10Check
    have F1 := And.intro @h3 (And.intro @h4 @d6)
    refine eS fun K1 hn1 hr1 he1 => ?_;refine eO fun K2 hk2 => ?_;refine tL F1 ?_;refine hk2 _ ?_;refine hn1 (some ([0,1,2], none)) _ ?_;refine eS fun K3 hn3 hr3 he3 => ?_;refine eS fun K4 hn4 hr4 he4 => ?_;refine eO fun K5 hk5 => ?_;refine tC 2 F1 ?_;refine tC 3 F1 ?_;refine tL F1 ?_;refine hk5 _ ?_;refine hn4 (some ([0,1,2,12], none)) _ ?_;refine eCf ?_;refine hn3 (some ([0,1,2], none)) _ ?_;refine eS fun K6 hn6 hr6 he6 => ?_;refine eS fun K7 hn7 hr7 he7 => ?_;refine eO fun K8 hk8 => ?_;refine tC 2 F1 ?_;refine tC 3 F1 ?_;refine tL F1 ?_;refine hk8 _ ?_;refine hn7 (some ([0,2,18], none)) _ ?_;refine eCf ?_;refine hn6 (some ([0,2], none)) _ ?_;refine eS fun K9 hn9 hr9 he9 => ?_;refine eS fun K10 hn10 hr10 he10 => ?_;refine eO fun K11 hk11 => ?_;refine tC 2 F1 ?_;refine tC 3 F1 ?_;refine tL F1 ?_;refine hk11 _ ?_;refine hn10 (some ([24], none)) _ ?_;refine eCf ?_;refine hn9 (some ([], none)) _ ?_
    refine eS fun K12 hn12 hr12 he12 => ?_;refine eO fun K13 hk13 => ?_;refine tL F1 ?_;refine hk13 _ ?_;refine hn12 (some ([6], none)) _ ?_
    exact sf1 F1
def okOp (o : OpV) : Bool := checkA o == 0
def redOp (o : OpV) : OpV := { o with loc := o.loc % 2 }
def opsM (l : List OpV) : List OpV := (l.map redOp).filter okOp
theorem opsM_len (l : List OpV) : (opsM l).length ≤ l.length := by
  unfold opsM
  refine Nat.le_trans (List.length_filter_le _ _) (by simp)
theorem opsM_mem {l : List OpV} {o : OpV} (h : o ∈ opsM l) : checkA o = 0 ∧ (o.loc = 0 ∨ o.loc = 1) := by
  unfold opsM at h
  obtain ⟨h1, h2⟩ := List.mem_filter.1 h
  obtain ⟨x, _, rfl⟩ := List.mem_map.1 h1
  refine ⟨by simpa [okOp] using h2, ?_⟩
  show x.loc % 2 = 0 ∨ x.loc % 2 = 1
  omega
theorem opsM_succ {l : List OpV} {i : Nat} {o : OpV} (h : l[i]? = some o) : opsM (l.take (i + 1)) = opsM (l.take i) ++ if checkA (redOp o) = 0 then [redOp o] else [] := by
  unfold opsM
  rw [List.take_add_one, h, Option.toList_some, List.map_append, List.filter_append]
  congr 1
  by_cases hc : checkA (redOp o) = 0
  · rw [if_pos hc]; simp [okOp, hc]
  · rw [if_neg hc]; simp [okOp, hc]
def OpInv (r : RunV) (k : Nat) (S : St) : Prop :=
  ∃ i : Nat, i ≤ r.ops.length ∧ k = r.ops.length - i ∧ S = ⟨[(3, .own 0), (7, .sl 3 r.go (r.ops.map eOp)), (8, sI r.ops.length), (9, sI i)], [(0, .row 94 3 ((opsM (r.ops.take i)).map eOp))], 1⟩
set_option maxHeartbeats 4000000 in
theorem ok_l10ops (r : RunV) (hl : r.ops.length ≤ 3) : Ok 66 [.agg (cRun r)] (.sl 3 0 ((opsM r.ops).map eOp)) := by
  refine ok_of_tr Try.func66 tr_l10ops rfl ?_
  unfold evFn sc_l10ops rv_l10ops
  refine eS fun _ hn1 _ _ => ?_;refine eO fun _ hk2 => ?_;refine tL0 ?_;refine hk2 _ ?_;refine hn1 (some ([1], none)) _ ?_;refine eS fun _ hn3 _ _ => ?_;refine eO fun _ hk4 => ?_;refine tL0 ?_;refine hk4 _ ?_;refine hn3 (some ([1,3], none)) _ ?_;refine eS fun _ hn5 _ _ => ?_;refine eS fun _ hn6 _ _ => ?_;refine eO fun _ hk7 => ?_;refine tC0 2 ?_;refine tL0 ?_;refine hk7 _ ?_;refine hn6 (some ([3,7,8,9], none)) _ ?_;refine eB fun _ _ hx8 _ _ => ?_;refine eW (OpInv r) (r.ops.length) (some ([3,7,8,9], some ([1], 1))) ([.slot 3 (some 94) 3]) ?_ ?_
  · try refine lp0 ?_
    exact ⟨0, by omega, by omega, by rfl⟩
  · intro k S1 hI
    obtain ⟨i, hi, rfl, rfl⟩ := hI
    have hcase : i = r.ops.length ∨ (∃ o, r.ops[i]? = some o ∧ checkA (redOp o) = 0) ∨ (∃ o, r.ops[i]? = some o ∧ ¬ checkA (redOp o) = 0) := by
      rcases Nat.lt_or_ge i r.ops.length with h | h
      · by_cases h1 : checkA (redOp r.ops[i]) = 0
        · exact .inr (.inl ⟨_, List.getElem?_eq_getElem h, h1⟩)
        · exact .inr (.inr ⟨_, List.getElem?_eq_getElem h, h1⟩)
      · exact .inl (by omega)
    intro _ hn9 _ he9
    rcases hcase with hcc | ⟨o, ho, hk⟩ | ⟨o, ho, hk⟩
    · skip
      have w2 : ¬ (i : Int) < (r.ops.length : Int) := by omega
      have w3 : r.ops.take i = r.ops := by rw [List.take_of_length_le (by omega)]
      have F1 := And.intro @w2 @w3
      refine eS fun _ hn10 _ _ => ?_;refine eO fun _ hk11 => ?_;refine tZ F1 ?_;refine hk11 _ ?_;refine hn10 (some ([3,7,8,9,10], none)) _ ?_;refine eS fun _ _ _ he12 => ?_;refine eCf ?_;refine he12 0 _ ?_;refine he9 0 _ ?_;refine hx8 _ ?_;refine hn5 (some ([3], none)) _ ?_;refine eS fun _ hn13 _ _ => ?_;refine eO fun _ hk14 => ?_;refine tL F1 ?_;refine hk14 _ ?_;refine hn13 (some ([2], none)) _ ?_
      exact sf1 F1
    · skip
      have hlt := (List.getElem?_eq_some_iff.1 ho).1
      have w2 : (i : Int) < (r.ops.length : Int) := by omega
      have w3 : IntKind.i64.wrap ((i : Int) + 1) = ((i + 1 : Nat) : Int) := by rw [IntKind.wrap_i64]; omega
      have k0 := ok_r10Check (redOp o)
      rw [hk] at k0
      have hs := opsM_succ ho
      rw [if_pos hk] at hs
      have w4 := opsM_len (r.ops.take i)
      have w5 : (opsM (r.ops.take i)).length ≤ 999999 := by simp at w4; omega
      have w6 : ((opsM (r.ops.take i)).length + 1) * 24 ≤ 140737488355328 := by simp at w4; omega
      have w7 := bit_loc o.loc
      have F2 := And.intro @w2 (And.intro @w3 (And.intro @ho (And.intro @w5 (And.intro @w6 @w7))))
      refine eS fun _ hn15 _ _ => ?_;refine eO fun _ hk16 => ?_;refine tZ F2 ?_;refine hk16 _ ?_;refine hn15 (some ([3,7,8,9,10], none)) _ ?_;refine eS fun _ hn17 _ _ => ?_;refine eCt ?_;refine hn17 (some ([3,7,8,9], none)) _ ?_;refine eS fun _ hn18 _ _ => ?_;refine eB fun _ hn19 _ _ _ => ?_;refine eS fun _ hn20 _ _ => ?_;refine eO fun _ hk21 => ?_;refine tC 1 F2 ?_;refine tC 1 F2 ?_;refine tZ F2 ?_;refine hk21 _ ?_;refine hn20 (some ([3,5,7,8,9], none)) _ ?_;refine eS fun _ hn22 _ _ => ?_;refine eO fun _ hk23 => ?_;refine tC 2 F2 ?_;refine tS 1 F2 ?_;refine Or.inl ⟨_, gen_bits (.inl rfl), ?_⟩;refine tZ F2 ?_;refine hk23 _ ?_;refine hn22 (some ([3,5,7,8,9], none)) _ ?_;refine eS fun _ hn24 _ _ => ?_;refine eO fun _ hk25 => ?_;refine tC 2 F2 ?_;refine tC 2 F2 ?_;refine tC 2 F2 ?_;refine tS 1 F2 ?_;refine Or.inl (Or.inl ⟨_, k0, ?_⟩);refine tZ F2 ?_;refine hk25 _ ?_;refine hn24 (some ([3,5,7,8,9,24], none)) _ ?_
      refine eCt ?_;refine eO fun _ hk26 => ?_;refine tC 2 F2 ?_;refine tC 1 F2 ?_;refine tC 1 F2 ?_;refine tL F2 ?_;refine hk26 _ ?_;refine hn19 _ ?_;refine hn18 (some ([3,7,8,9], none)) _ ?_;refine eO fun _ hk27 => ?_;refine tC 1 F2 ?_;refine tL F2 ?_;refine hk27 _ ?_;refine hn9 (r.ops.length - (i + 1)) (some ([3,7,8,9], some ([2], 1))) _ ?_ ?_
      all_goals try refine lp0 ?_
      · omega
      · exact ⟨i + 1, by omega, by omega, by rw [hs, List.map_append]; rfl⟩
    · skip
      have hlt := (List.getElem?_eq_some_iff.1 ho).1
      have w2 : (i : Int) < (r.ops.length : Int) := by omega
      have w3 : IntKind.i64.wrap ((i : Int) + 1) = ((i + 1 : Nat) : Int) := by rw [IntKind.wrap_i64]; omega
      have k0 := ok_r10Check (redOp o)
      have hs := opsM_succ ho
      rw [if_neg hk, List.append_nil] at hs
      have w4 : (checkA (redOp o) == 0) = false := by simpa using hk
      generalize checkA (redOp o) = e at k0 w4
      have w7 := bit_loc o.loc
      have F3 := And.intro @w2 (And.intro @w3 (And.intro @ho (And.intro @w4 @w7)))
      refine eS fun _ hn28 _ _ => ?_;refine eO fun _ hk29 => ?_;refine tZ F3 ?_;refine hk29 _ ?_;refine hn28 (some ([3,7,8,9,10], none)) _ ?_;refine eS fun _ hn30 _ _ => ?_;refine eCt ?_;refine hn30 (some ([3,7,8,9], none)) _ ?_;refine eS fun _ hn31 _ _ => ?_;refine eB fun _ hn32 _ _ _ => ?_;refine eS fun _ hn33 _ _ => ?_;refine eO fun _ hk34 => ?_;refine tC 1 F3 ?_;refine tC 1 F3 ?_;refine tZ F3 ?_;refine hk34 _ ?_;refine hn33 (some ([3,5,7,8,9], none)) _ ?_;refine eS fun _ hn35 _ _ => ?_;refine eO fun _ hk36 => ?_;refine tC 2 F3 ?_;refine tS 1 F3 ?_;refine Or.inl ⟨_, gen_bits (.inl rfl), ?_⟩;refine tZ F3 ?_;refine hk36 _ ?_;refine hn35 (some ([3,5,7,8,9], none)) _ ?_;refine eS fun _ hn37 _ _ => ?_;refine eO fun _ hk38 => ?_;refine tC 2 F3 ?_;refine tC 2 F3 ?_;refine tC 2 F3 ?_;refine tS 1 F3 ?_;refine Or.inl (Or.inl ⟨_, k0, ?_⟩);refine tZ F3 ?_;refine hk38 _ ?_;refine hn37 (some ([3,5,7,8,9,24], none)) _ ?_
      refine eCf ?_;refine hn32 _ ?_;refine hn31 (some ([3,7,8,9], none)) _ ?_;refine eO fun _ hk39 => ?_;refine tC 1 F3 ?_;refine tL F3 ?_;refine hk39 _ ?_;refine hn9 (r.ops.length - (i + 1)) (some ([3,7,8,9], some ([0], 1))) _ ?_ ?_
      all_goals try refine lp0 ?_
      · omega
      · exact ⟨i + 1, by omega, by omega, by rw [hs]⟩
theorem ok_l10word {C : Coder} (w : WorldM C) (p : Int) {n : Nat} (h : WorldOk w n) (hn : n ≤ 900) : Ok 30 [eWorld w, sI p] (.agg (eWord (Wd w.m p))) := by
  refine ok_of_tr Try.func30 tr_l10word rfl ?_
  have k0 := ok_cWord w.m p h.mach.mem (by omega)
  unfold evFn sc_l10word rv_l10word
  refine eS fun _ hn1 _ _ => ?_;refine eO fun _ hk2 => ?_;refine tL0 ?_;refine hk2 _ ?_;refine hn1 (some ([1,2,4], none)) _ ?_;refine eS fun _ hn3 _ _ => ?_;refine eO fun _ hk4 => ?_;refine tC0 2 ?_;refine tS0 1 ?_;refine tS0 1 ?_;refine Or.inl (Or.inl ⟨_, k0, ?_⟩);refine tC0 5 ?_;refine tL0 ?_;refine hk4 _ ?_;refine hn3 (some ([4,5], none)) _ ?_;refine eS fun _ hn5 _ _ => ?_;refine eO fun _ hk6 => ?_;refine tC0 1 ?_;refine tZ0 ?_;refine hk6 _ ?_;refine hn5 (some ([4], none)) _ ?_
  exact sf0
abbrev eT1 (s : AtmV) : List Sh := [.ifc 175 (.agg (cAtm s))]
theorem eC1_atm : eC1 atm = eT1 := rfl
def codesA (l : List OpV) : List AtmV := l.map newA
def machR (l : List OpV) (w0 w1 : WordV) : MachM := (cnewM (max 1 (l.length : Int)) [w0, w1]).1
noncomputable def begunW (l : List OpV) (w0 w1 : WordV) : WorldM atm := (makeM (C := atm) (machR l w0 w1) (codesA l)).1
theorem mnew_two (l : List OpV) (w0 w1 : WordV) (h : l.length ≤ 8) : (mnewM (max 1 (l.length : Int)) [w0, w1]).2 = 0 := by
  unfold mnewM
  rw [if_neg (by omega), if_neg (by simp), if_neg (by simp)]
theorem begun_ok (l : List OpV) (w0 w1 : WordV) (h : l.length ≤ 8) : WorldOk (begunW l w0 w1) 2 ∧ makeM (C := atm) (machR l w0 w1) (codesA l) = (⟨machR l w0 w1, (codesA l).map (startM (C := atm)), List.replicate l.length false⟩, 0) ∧
    (machR l w0 w1).mem.views.length = (max 1 (l.length : Int)).toNat ∧ (machR l w0 w1).mem.places.length = 2 ∧ Wd (machR l w0 w1) 0 = w0 ∧ Wd (machR l w0 w1) 1 = w1 := by
  have h0 := mnew_two l w0 w1 h
  obtain ⟨s1, s2, s3⟩ := cnew_sizes h0
  have hl : (codesA l).length = l.length := by simp [codesA]
  have e : makeM (C := atm) (machR l w0 w1) (codesA l) = (⟨machR l w0 w1, (codesA l).map (startM (C := atm)), List.replicate l.length false⟩, 0) := by
    unfold makeM
    rw [if_neg (by unfold machR; rw [s1, hl]; omega), hl]
  refine ⟨?_, e, s1, s2, wd_new h0 (p := 0) rfl, wd_new h0 (p := 1) rfl⟩
  unfold begunW
  rw [e]
  refine ⟨machOk_up (machOk_new _ _) (by omega), ?_, by simp [codesA], fun t ht => ?_⟩
  · show ((codesA l).map (startM (C := atm))).length ≤ (cnewM (max 1 (l.length : Int)) [w0, w1]).1.mem.views.length
    rw [List.length_map, s1, hl]; omega
  · obtain ⟨s, hs, rfl⟩ := List.mem_map.1 ht
    obtain ⟨o, _, rfl⟩ := List.mem_map.1 hs
    exact taskOk_up (startOk (C := atm) (n := 0) ⟨Int.le_refl _, Int.le_refl _⟩) (by omega)
def BgInv (r : RunV) (L : List OpV) (k : Nat) (S : St) : Prop :=
  ∃ i : Nat, i ≤ L.length ∧ k = L.length - i ∧ S = ⟨[(1, .ptr 0 0 0), (2, .ptr 1 0 0), (5, .sl 3 0 (L.map eOp)), (6, .own 2), (17, .sl 3 0 (L.map eOp)), (18, sI L.length), (19, sI i)], [(0, .box 80 (cRun r)), (1, .box 85 zCells), (2, .row 102 1 (((codesA L).take i).map eT1))], 3⟩
set_option maxHeartbeats 8000000 in
theorem ok_l10begun (r : RunV) (hl : r.ops.length ≤ 3) : Ok 28 [.agg (cRun r)] (.tup [eWorld (begunW (opsM r.ops) r.w0 r.w1), .sl 3 0 ((opsM r.ops).map eOp), sB true]) := by
  refine ok_of_tr Try.func28 tr_l10begun rfl ?_
  have k0 := ok_l10ops r hl
  have hle := opsM_len r.ops
  have hmem : ∀ o ∈ opsM r.ops, checkA o = 0 := fun o ho => (opsM_mem ho).1
  generalize opsM r.ops = L at k0 hle hmem ⊢
  have k2 := ok_cNew (max 1 (L.length : Int)) 1 [r.w0, r.w1]
  have h0 := mnew_two L r.w0 r.w1 (by omega)
  obtain ⟨s1, s2, s3⟩ := cnew_sizes h0
  rw [s3] at k2
  change Ok _ _ (.tup [eMach (machR L r.w0 r.w1), sI 0]) at k2
  obtain ⟨_, e, _⟩ := begun_ok L r.w0 r.w1 (by omega)
  have k3 := ok_kMake (C := atm) (machR L r.w0 r.w1) 0 (codesA L) (by show (cnewM _ _).1.mem.views.length ≤ 8; rw [s1]; omega) (n := 0) (fun s hs => by
    obtain ⟨o, _, rfl⟩ := List.mem_map.1 hs
    exact ⟨Int.le_refl _, Int.le_refl _⟩) (by decide)
  rw [eC1_atm] at k3
  have e1 : (makeM (C := atm) (machR L r.w0 r.w1) (codesA L)).2 = 0 := by rw [e]
  rw [e1] at k3
  change Ok _ _ (.tup [eWorld (begunW L r.w0 r.w1), sI 0]) at k3
  have hcl : (codesA L).length = L.length := by simp [codesA]
  have htl : (begunW L r.w0 r.w1).tasks.length = L.length := by unfold begunW; rw [e]; simp [codesA]
  obtain ⟨iW, hiW, _, hsW, _⟩ := info_parts infoWord
  have kg : ∀ x, GenRel (.slice 76 x none none none) [x] [.fp (cRun r) 0] (.sl 3 1 [eWord r.w0, eWord r.w1]) := fun x => gen_slice_arr Try.underlying76 hiW (by decide) rfl (fun e he => by
    rcases List.mem_cons.1 he with rfl | he
    · exact ⟨rfl, rfl⟩
    · rcases List.mem_cons.1 he with rfl | he
      · exact ⟨rfl, rfl⟩
      · cases he) rfl
  generalize begunW L r.w0 r.w1 = W at k3 htl ⊢
  generalize machR L r.w0 r.w1 = M at k2 k3
  unfold evFn sc_l10begun rv_l10begun
  have F1 := @htl
  refine eS fun _ hn1 _ _ => ?_;refine eO fun _ hk2 => ?_;refine tL F1 ?_;refine hk2 _ ?_;refine hn1 (some ([1,2], none)) _ ?_;refine eS fun _ hn3 _ _ => ?_;refine eO fun _ hk4 => ?_;refine tC 1 F1 ?_;refine tS 1 F1 ?_;refine Or.inl (Or.inl ⟨_, k0, ?_⟩);refine tL F1 ?_;refine hk4 _ ?_;refine hn3 (some ([1,2,5], none)) _ ?_;refine eS fun _ hn5 _ _ => ?_;refine eO fun _ hk6 => ?_;refine tL F1 ?_;refine hk6 _ ?_;refine hn5 (some ([1,2,5,6], none)) _ ?_;refine eS fun _ hn7 _ _ => ?_;refine eS fun _ hn8 _ _ => ?_;refine eO fun _ hk9 => ?_;refine tL F1 ?_;refine hk9 _ ?_;refine hn8 (some ([1,2,5,6,17,18,19], none)) _ ?_;refine eB fun _ _ hx10 _ _ => ?_;refine eW (BgInv r L) (L.length) (some ([1,2,5,6,17,18,19], some ([0,1,2], 3))) ([.slot 6 (some 102) 1]) ?_ ?_
  · try refine lp0 ?_
    exact ⟨0, by omega, by omega, by rfl⟩
  · intro k S1 hI
    obtain ⟨i, hi, rfl, rfl⟩ := hI
    have hcase : i = L.length ∨ i < L.length := by omega
    intro _ hn11 _ he11
    rcases hcase with hcc | hcc
    · skip
      have w2 : ¬ (i : Int) < (L.length : Int) := by omega
      have w3 : (codesA L).take i = codesA L := by rw [List.take_of_length_le (by omega)]
      have F2 := And.intro F1 (And.intro @w2 @w3)
      refine eS fun _ hn12 _ _ => ?_;refine eO fun _ hk13 => ?_;refine tZ F2 ?_;refine hk13 _ ?_;refine hn12 (some ([1,2,5,6,17,18,19,20], none)) _ ?_;refine eS fun _ _ _ he14 => ?_;refine eCf ?_;refine he14 0 _ ?_;refine he11 0 _ ?_;refine hx10 _ ?_;refine hn7 (some ([1,2,5,6], none)) _ ?_;refine eS fun _ hn15 _ _ => ?_;refine eO fun _ hk16 => ?_;refine tS 4 F2 ?_;refine tS 1 F2 ?_;refine Or.inl ⟨_, kg _, ?_⟩;refine tS 1 F2 ?_;refine Or.inl (Or.inl ⟨_, k2, ?_⟩);refine tC 5 F2 ?_;refine tL F2 ?_;refine hk16 _ ?_;refine hn15 (some ([2,5,6,11,12], none)) _ ?_;refine eS fun _ hn17 _ _ => ?_;refine eO fun _ hk18 => ?_;refine tC 1 F2 ?_;refine tS 1 F2 ?_;refine tS 1 F2 ?_;refine Or.inl (Or.inl ⟨_, k3, ?_⟩);refine tC 5 F2 ?_;refine tL F2 ?_;refine hk18 _ ?_;refine hn17 (some ([2,5,12,13,14], none)) _ ?_;refine eS fun _ hn19 _ _ => ?_;refine eP ([]) [2,3,4] [0,1,2,3,4,5,6,7,8,9,10,11,12,13,14,15,17,18] [16] (by kernel_rfl) (fun _ hk20 => ?_)
      refine sp0 ?_
      have F3 := And.intro F2 @shPP
      refine evP_take 1 fun _ hk21 => ?_;refine sh1 F3 ?_;refine sd ?_;refine hk21 _ ?_;refine evP_take 3 fun _ hk22 => ?_;refine sh1 F3 ?_;refine sd ?_;refine hk22 _ ?_;refine evP_take 3 fun _ hk23 => ?_;refine sh1 F3 ?_;refine sd ?_;refine hk23 _ ?_;refine evP_take 4 fun _ hk24 => ?_;refine sh1 F3 ?_;refine sd ?_;refine hk24 _ ?_;refine evP_take 4 fun _ hk25 => ?_;refine sh1 F3 ?_;refine sd ?_;refine hk25 _ ?_;refine sh1 F3 ?_;refine hk20 _ (by rfl) (fun _ hk26 => ?_);refine sp0 ?_;refine toKL ?_;refine tZ F3 ?_;refine hk26 _ ?_;refine so0 ?_;refine hn19 (some ([2,3,4], none)) _ ?_
      exact sf1 F3
    · skip
      have w2 : (i : Int) < (L.length : Int) := by omega
      have w3 : IntKind.i64.wrap ((i : Int) + 1) = ((i + 1 : Nat) : Int) := by rw [IntKind.wrap_i64]; omega
      obtain ⟨o, ho⟩ : ∃ o, L[i]? = some o := ⟨_, List.getElem?_eq_getElem hcc⟩
      have k1 := ok_aNew o
      rw [if_pos (hmem o (List.mem_of_getElem? ho))] at k1
      have hs : ((codesA L).take (i + 1)).map eT1 = ((codesA L).take i).map eT1 ++ [eT1 (newA o)] := by
        rw [show (codesA L).take (i + 1) = (codesA L).take i ++ [newA o] from by rw [List.take_add_one]; unfold codesA; rw [List.getElem?_map, ho]; rfl, List.map_append]; rfl
      have w4 : ((codesA L).take i).length = i := by simp; omega
      have w5 : (i + 1) * 16 ≤ 140737488355328 := by omega
      have F4 := And.intro F1 (And.intro @w2 (And.intro @w3 (And.intro @w4 (And.intro @w5 @ho))))
      refine eS fun _ hn27 _ _ => ?_;refine eO fun _ hk28 => ?_;refine tZ F4 ?_;refine hk28 _ ?_;refine hn27 (some ([1,2,5,6,17,18,19,20], none)) _ ?_;refine eS fun _ hn29 _ _ => ?_;refine eCt ?_;refine hn29 (some ([1,2,5,6,17,18,19], none)) _ ?_;refine eS fun _ hn30 _ _ => ?_;refine eB fun _ hn31 _ _ _ => ?_;refine eS fun _ hn32 _ _ => ?_;refine eO fun _ hk33 => ?_;refine tC 1 F4 ?_;refine tC 1 F4 ?_;refine tZ F4 ?_;refine hk33 _ ?_;refine hn32 (some ([1,2,5,6,8,17,18,19], none)) _ ?_;refine eS fun _ hn34 _ _ => ?_;refine eO fun _ hk35 => ?_;refine tC 1 F4 ?_;refine tS 1 F4 ?_;refine Or.inl (Or.inl ⟨_, k1, ?_⟩);refine tL F4 ?_;refine hk35 _ ?_;refine hn34 (some ([1,2,5,6,9,10,17,18,19], none)) _ ?_;refine eS fun _ hn36 _ _ => ?_;refine eS fun _ hn37 _ _ => ?_;refine eO fun _ hk38 => ?_;refine tC 2 F4 ?_;refine tS 2 F4 ?_;refine tS 1 F4 ?_;refine Or.inl ⟨_, gen_some_eq codeIface, ?_⟩;refine tL F4 ?_
      refine hk38 _ ?_;refine hn37 (some ([1,2,5,6,9,17,18,19,33], none)) _ ?_;refine eCf ?_;refine hn36 (some ([1,2,5,6,9,17,18,19], none)) _ ?_;refine eO fun _ hk39 => ?_;refine tC 3 F4 ?_;refine tC 1 F4 ?_;refine tL F4 ?_;refine hk39 _ ?_;refine hn31 _ ?_;refine hn30 (some ([1,2,5,6,17,18,19], none)) _ ?_;refine eO fun _ hk40 => ?_;refine tC 1 F4 ?_;refine tL F4 ?_;refine hk40 _ ?_;refine hn11 (L.length - (i + 1)) (some ([1,2,5,6,17,18,19], some ([0,1,4], 3))) _ ?_ ?_
      all_goals try refine lp0 ?_
      · omega
      · exact ⟨i + 1, by omega, by omega, by rw [hs]⟩
end Go.Proofs.Ytenbagffdlljdaa
