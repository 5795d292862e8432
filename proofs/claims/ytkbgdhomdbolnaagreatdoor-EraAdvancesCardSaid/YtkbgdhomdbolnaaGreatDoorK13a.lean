/-
  Layer 13 by shadows: eras.
-/
import Derived.Test.YtkbgdhomdbolnaaGreatDoorK8a
import Derived.Test.YtkbgdhomdbolnaaGreatDoorK11
import Derived.Test.YtkbgdhomdbolnaaGreatDoorSc13
import Derived.Test.YtkbgdhomdbolnaaGreatDoorMC
namespace Go.Proofs.YtkbgdhomdbolnaaGreatDoor
set_option linter.unusedSimpArgs false
set_option linter.unusedVariables false
open Go.RowKit Go.Maps

inductive EPos | enter | ann | ann1 | cmp | leave1 | leave2 | adv1 | raise
  deriving DecidableEq
def fnE : EPos → FuncId
  | .enter => 80 | .ann => 82 | .ann1 => 103 | .cmp => 104 | .leave1 => 83 | .leave2 => 84 | .adv1 => 86 | .raise => 87
structure EraV where
  era : Int
  mine : Int
  found : Int
  time : Int
  tried : Bool
  over : Bool
  pos : EPos
abbrev shE (p : EPos) : Sh := .fn (.func (fnE p)) [] []
abbrev cEra (s : EraV) : List Sh := [sI s.era, sI s.mine, sI s.found, sU 0, sU 0, sI s.time, sB s.tried, sB s.over, shE s.pos]
def annE (s : EraV) (g : GotV) : EraV × ActM := ({ s with found := g.word.val, pos := .ann1 }, ⟨4, s.mine, zWord, ⟨g.word.val, 0, 0⟩⟩)
def endE (s : EraV) (t : Int) : EraV × ActM := ({ s with over := true, time := t }, zAct)
def lookE (s : EraV) (p : EPos) : EraV × ActM := ({ s with pos := p }, ⟨5, s.era, zWord, zWord⟩)
def cmpE (s : EraV) (g : GotV) : EraV × ActM := if g.word.val = s.found then endE s s.found else annE s g
def raiseE (s : EraV) (g : GotV) : EraV × ActM := if s.tried = true ∧ g.ok = true then endE s s.found else ({ s with found := IntKind.i64.wrap (g.word.val + 1), tried := true, pos := .raise }, ⟨6, s.era, g.word, ⟨IntKind.i64.wrap (g.word.val + 1), 0, 0⟩⟩)
def eraDo (s : EraV) (g : GotV) : EraV × ActM :=
  match s.pos with
  | .enter => lookE s .ann
  | .ann => annE s g
  | .ann1 => lookE s .cmp
  | .cmp => cmpE s g
  | .leave1 => ({ s with pos := .leave2 }, ⟨4, s.mine, zWord, zWord⟩)
  | .leave2 => endE s 0
  | .adv1 => lookE s .raise
  | .raise => raiseE s g
abbrev eStep (r : EraV × ActM) : Sh := .tup [.agg (cEra r.1), .agg (eAct4 r.2)]
theorem ok_eLook (s : EraV) (p : EPos) : Ok 81 [.agg (cEra s), shE p] (eStep (lookE s p)) := by
  refine ok_of_tr Tryz.func81 tr_eLook rfl ?_
  unfold lookE
  unfold evFn sc_eLook rv_eLook
  refine eS fun K1 hn1 hr1 he1 => ?_
  refine eO fun K2 hk2 => ?_
  refine tL0 ?_
  refine hk2 _ ?_
  refine hn1 (some ([1, 2, 4, 5], none)) _ ?_
  refine eS fun K3 hn3 hr3 he3 => ?_
  refine eO fun K4 hk4 => ?_
  refine tZ0 ?_
  refine hk4 _ ?_
  refine hn3 (some ([2, 4, 5], none)) _ ?_
  refine eS fun K5 hn5 hr5 he5 => ?_
  refine eP ([]) [4, 5] [0, 1, 2, 3] [4, 5] (by kernel_rfl) (fun K6 hk6 => ?_)
  refine sp0 ?_
  have F1 := @shPP
  refine evP_take 1 fun K7 hk7 => ?_
  refine sh1 F1 ?_
  refine sd ?_
  refine hk7 _ ?_
  refine evP_take 2 fun K8 hk8 => ?_
  refine sh1 F1 ?_
  refine sd ?_
  refine hk8 _ ?_
  refine sh1 F1 ?_
  refine hk6 _ (by rfl) (fun K9 hk9 => ?_)
  refine sp0 ?_
  refine toKL ?_
  refine tC 1 F1 ?_
  refine tZ F1 ?_
  refine hk9 _ ?_
  refine so0 ?_
  refine hn5 (some ([4, 5], none)) _ ?_
  refine sg1 F1 ?_
  rfl
theorem ok_eDone (s : EraV) (t : Int) : Ok 85 [.agg (cEra s), sI t] (eStep (endE s t)) := by
  refine ok_of_tr Tryz.func85 tr_eDone rfl ?_
  unfold endE
  unfold evFn sc_eDone rv_eDone
  refine eS fun K1 hn1 hr1 he1 => ?_
  refine eO fun K2 hk2 => ?_
  refine tL0 ?_
  refine hk2 _ ?_
  refine hn1 (some ([1, 2, 4, 5], none)) _ ?_
  refine eS fun K3 hn3 hr3 he3 => ?_
  refine eO fun K4 hk4 => ?_
  refine tC0 3 ?_
  refine tZ0 ?_
  refine hk4 _ ?_
  refine hn3 (some ([2, 4, 5], none)) _ ?_
  refine eS fun K5 hn5 hr5 he5 => ?_
  refine eO fun K6 hk6 => ?_
  refine tC0 1 ?_
  refine tC0 2 ?_
  refine tZ0 ?_
  refine hk6 _ ?_
  refine hn5 (some ([4, 5], none)) _ ?_
  refine sg0 ?_
  rfl
theorem ok_eAnn (s : EraV) (g : GotV) : Ok 82 [.agg (cEra s), .agg (eGot g)] (eStep (annE s g)) := by
  refine ok_of_tr Tryz.func82 tr_eAnn rfl ?_
  unfold annE
  unfold evFn sc_eAnn rv_eAnn
  refine eS fun K1 hn1 hr1 he1 => ?_
  refine eO fun K2 hk2 => ?_
  refine tL0 ?_
  refine hk2 _ ?_
  refine hn1 (some ([2, 3, 4, 5], none)) _ ?_
  refine eS fun K3 hn3 hr3 he3 => ?_
  refine eO fun K4 hk4 => ?_
  refine tC0 3 ?_
  refine tZ0 ?_
  refine hk4 _ ?_
  refine hn3 (some ([2, 4, 5], none)) _ ?_
  refine eS fun K5 hn5 hr5 he5 => ?_
  refine eO fun K6 hk6 => ?_
  refine tZ0 ?_
  refine hk6 _ ?_
  refine hn5 (some ([2, 4, 5], none)) _ ?_
  refine eS fun K7 hn7 hr7 he7 => ?_
  refine eP ([]) [4, 5] [0, 1, 2, 3, 4, 5] [6, 7] (by kernel_rfl) (fun K8 hk8 => ?_)
  refine sp0 ?_
  have F1 := @shPP
  refine evP_take 1 fun K9 hk9 => ?_
  refine sh1 F1 ?_
  refine sd ?_
  refine hk9 _ ?_
  refine evP_take 2 fun K10 hk10 => ?_
  refine sh1 F1 ?_
  refine sd ?_
  refine hk10 _ ?_
  refine evP_take 2 fun K11 hk11 => ?_
  refine sh1 F1 ?_
  refine sd ?_
  refine hk11 _ ?_
  refine sh1 F1 ?_
  refine hk8 _ (by rfl) (fun K12 hk12 => ?_)
  refine sp0 ?_
  refine toKL ?_
  refine tC 1 F1 ?_
  refine tZ F1 ?_
  refine hk12 _ ?_
  refine so0 ?_
  refine hn7 (some ([4, 5], none)) _ ?_
  refine sg1 F1 ?_
  rfl
theorem ok_eEnter1 (s : EraV) (g : GotV) : Ok 80 [.agg (cEra s), .agg (eGot g)] (eStep (lookE s .ann)) := by
  refine ok_of_tr Tryz.func80 tr_eEnter1 rfl ?_
  have k0 := ok_eLook s .ann
  unfold evFn sc_eEnter1 rv_eEnter1
  refine eS fun K1 hn1 hr1 he1 => ?_
  refine eO fun K2 hk2 => ?_
  refine tL0 ?_
  refine hk2 _ ?_
  refine hn1 (some ([2, 4, 5], none)) _ ?_
  refine eS fun K3 hn3 hr3 he3 => ?_
  refine eO fun K4 hk4 => ?_
  refine tC0 1 ?_
  refine tS0 1 ?_
  refine Or.inl (Or.inl ⟨_, k0, ?_⟩)
  refine tC0 3 ?_
  refine tZ0 ?_
  refine hk4 _ ?_
  refine hn3 (some ([4, 5], none)) _ ?_
  exact sf0
theorem ok_eAnn1 (s : EraV) (g : GotV) : Ok 103 [.agg (cEra s), .agg (eGot g)] (eStep (lookE s .cmp)) := by
  refine ok_of_tr Tryz.func103 tr_eAnn1 rfl ?_
  have k0 := ok_eLook s .cmp
  unfold evFn sc_eAnn1 rv_eAnn1
  refine eS fun K1 hn1 hr1 he1 => ?_
  refine eO fun K2 hk2 => ?_
  refine tL0 ?_
  refine hk2 _ ?_
  refine hn1 (some ([2, 4, 5], none)) _ ?_
  refine eS fun K3 hn3 hr3 he3 => ?_
  refine eO fun K4 hk4 => ?_
  refine tC0 1 ?_
  refine tS0 1 ?_
  refine Or.inl (Or.inl ⟨_, k0, ?_⟩)
  refine tC0 3 ?_
  refine tZ0 ?_
  refine hk4 _ ?_
  refine hn3 (some ([4, 5], none)) _ ?_
  exact sf0
theorem ok_eAdv1 (s : EraV) (g : GotV) : Ok 86 [.agg (cEra s), .agg (eGot g)] (eStep (lookE s .raise)) := by
  refine ok_of_tr Tryz.func86 tr_eAdv1 rfl ?_
  have k0 := ok_eLook s .raise
  unfold evFn sc_eAdv1 rv_eAdv1
  refine eS fun K1 hn1 hr1 he1 => ?_
  refine eO fun K2 hk2 => ?_
  refine tL0 ?_
  refine hk2 _ ?_
  refine hn1 (some ([2, 4, 5], none)) _ ?_
  refine eS fun K3 hn3 hr3 he3 => ?_
  refine eO fun K4 hk4 => ?_
  refine tC0 1 ?_
  refine tS0 1 ?_
  refine Or.inl (Or.inl ⟨_, k0, ?_⟩)
  refine tC0 3 ?_
  refine tZ0 ?_
  refine hk4 _ ?_
  refine hn3 (some ([4, 5], none)) _ ?_
  exact sf0
theorem ok_eLeave1 (s : EraV) (g : GotV) : Ok 83 [.agg (cEra s), .agg (eGot g)] (eStep ({ s with pos := .leave2 }, ⟨4, s.mine, zWord, zWord⟩)) := by
  refine ok_of_tr Tryz.func83 tr_eLeave1 rfl ?_
  unfold evFn sc_eLeave1 rv_eLeave1
  refine eS fun K1 hn1 hr1 he1 => ?_
  refine eO fun K2 hk2 => ?_
  refine tL0 ?_
  refine hk2 _ ?_
  refine hn1 (some ([2, 4, 5], none)) _ ?_
  refine eS fun K3 hn3 hr3 he3 => ?_
  refine eO fun K4 hk4 => ?_
  refine tZ0 ?_
  refine hk4 _ ?_
  refine hn3 (some ([2, 4, 5], none)) _ ?_
  refine eS fun K5 hn5 hr5 he5 => ?_
  refine eP ([]) [4, 5] [0, 1, 2, 3] [4, 5] (by kernel_rfl) (fun K6 hk6 => ?_)
  refine sp0 ?_
  have F1 := @shPP
  refine evP_take 1 fun K7 hk7 => ?_
  refine sh1 F1 ?_
  refine sd ?_
  refine hk7 _ ?_
  refine evP_take 2 fun K8 hk8 => ?_
  refine sh1 F1 ?_
  refine sd ?_
  refine hk8 _ ?_
  refine sh1 F1 ?_
  refine hk6 _ (by rfl) (fun K9 hk9 => ?_)
  refine sp0 ?_
  refine toKL ?_
  refine tC 1 F1 ?_
  refine tZ F1 ?_
  refine hk9 _ ?_
  refine so0 ?_
  refine hn5 (some ([4, 5], none)) _ ?_
  refine sg1 F1 ?_
  rfl
theorem ok_eLeave2 (s : EraV) (g : GotV) : Ok 84 [.agg (cEra s), .agg (eGot g)] (eStep (endE s 0)) := by
  refine ok_of_tr Tryz.func84 tr_eLeave2 rfl ?_
  have k0 := ok_eDone s 0
  unfold evFn sc_eLeave2 rv_eLeave2
  refine eS fun K1 hn1 hr1 he1 => ?_
  refine eO fun K2 hk2 => ?_
  refine tL0 ?_
  refine hk2 _ ?_
  refine hn1 (some ([2, 4, 5], none)) _ ?_
  refine eS fun K3 hn3 hr3 he3 => ?_
  refine eO fun K4 hk4 => ?_
  refine tC0 1 ?_
  refine tS0 1 ?_
  refine Or.inl (Or.inl ⟨_, k0, ?_⟩)
  refine tC0 3 ?_
  refine tZ0 ?_
  refine hk4 _ ?_
  refine hn3 (some ([4, 5], none)) _ ?_
  exact sf0
theorem ok_eCompare (s : EraV) (g : GotV) : Ok 104 [.agg (cEra s), .agg (eGot g)] (eStep (cmpE s g)) := by
  refine ok_of_tr Tryz.func104 tr_eCompare rfl ?_
  have k0 := ok_eDone s s.found
  have k1 := ok_eAnn s g
  unfold cmpE
  by_cases h : g.word.val = s.found
  · rw [if_pos h]
    have d : (g.word.val == s.found) = true := by simpa using h
    unfold evFn sc_eCompare rv_eCompare
    have F1 := @d
    refine eS fun K1 hn1 hr1 he1 => ?_
    refine eO fun K2 hk2 => ?_
    refine tL F1 ?_
    refine hk2 _ ?_
    refine hn1 (some ([2, 3, 4, 5], none)) _ ?_
    refine eS fun K3 hn3 hr3 he3 => ?_
    refine eS fun K4 hn4 hr4 he4 => ?_
    refine eO fun K5 hk5 => ?_
    refine tC 3 F1 ?_
    refine tC 3 F1 ?_
    refine tZ F1 ?_
    refine hk5 _ ?_
    refine hn4 (some ([2, 3, 4, 5, 12], none)) _ ?_
    refine eCt ?_
    refine eS fun K6 hn6 hr6 he6 => ?_
    refine eO fun K7 hk7 => ?_
    refine tC 1 F1 ?_
    refine tC 3 F1 ?_
    refine tS 1 F1 ?_
    refine Or.inl (Or.inl ⟨_, k0, ?_⟩)
    refine tC 3 F1 ?_
    refine tZ F1 ?_
    refine hk7 _ ?_
    refine hn6 (some ([4, 5], none)) _ ?_
    refine hr3 _ ?_
    exact sf1 F1
  · rw [if_neg h]
    have d : (g.word.val == s.found) = false := by simpa using h
    unfold evFn sc_eCompare rv_eCompare
    have F1 := @d
    refine eS fun K1 hn1 hr1 he1 => ?_
    refine eO fun K2 hk2 => ?_
    refine tL F1 ?_
    refine hk2 _ ?_
    refine hn1 (some ([2, 3, 4, 5], none)) _ ?_
    refine eS fun K3 hn3 hr3 he3 => ?_
    refine eS fun K4 hn4 hr4 he4 => ?_
    refine eO fun K5 hk5 => ?_
    refine tC 3 F1 ?_
    refine tC 3 F1 ?_
    refine tZ F1 ?_
    refine hk5 _ ?_
    refine hn4 (some ([2, 3, 4, 5, 12], none)) _ ?_
    refine eCf ?_
    refine hn3 (some ([2, 3, 4, 5], none)) _ ?_
    refine eS fun K6 hn6 hr6 he6 => ?_
    refine eO fun K7 hk7 => ?_
    refine tC 1 F1 ?_
    refine tC 1 F1 ?_
    refine tS 1 F1 ?_
    refine Or.inl (Or.inl ⟨_, k1, ?_⟩)
    refine tC 3 F1 ?_
    refine tZ F1 ?_
    refine hk7 _ ?_
    refine hn6 (some ([4, 5], none)) _ ?_
    exact sf1 F1
theorem ok_eRaise (s : EraV) (g : GotV) : Ok 87 [.agg (cEra s), .agg (eGot g)] (eStep (raiseE s g)) := by
  refine ok_of_tr Tryz.func87 tr_eRaise rfl ?_
  obtain ⟨era, mine, found, time, tried, over, pos⟩ := s
  obtain ⟨w, ok⟩ := g
  unfold raiseE
  by_cases h : tried = true ∧ ok = true
  · rw [if_pos h]
    obtain ⟨rfl, rfl⟩ := h
    have k0 := ok_eDone ⟨era, mine, found, time, true, over, pos⟩ found
    unfold evFn sc_eRaise rv_eRaise
    refine eS fun K1 hn1 hr1 he1 => ?_
    refine eO fun K2 hk2 => ?_
    refine tL0 ?_
    refine hk2 _ ?_
    refine hn1 (some ([2, 3, 4, 5], none)) _ ?_
    refine eS fun K3 hn3 hr3 he3 => ?_
    refine eS fun K4 hn4 hr4 he4 => ?_
    refine eO fun K5 hk5 => ?_
    refine tC0 2 ?_
    refine tC0 3 ?_
    refine tL0 ?_
    refine hk5 _ ?_
    refine hn4 (some ([2, 3, 4, 5, 11], none)) _ ?_
    refine eCt ?_
    refine eS fun K6 hn6 hr6 he6 => ?_
    refine eO fun K7 hk7 => ?_
    refine tC0 1 ?_
    refine tC0 3 ?_
    refine tS0 1 ?_
    refine Or.inl (Or.inl ⟨_, k0, ?_⟩)
    refine tC0 3 ?_
    refine tZ0 ?_
    refine hk7 _ ?_
    refine hn6 (some ([4, 5], none)) _ ?_
    refine hr3 _ ?_
    exact sf0
  · rw [if_neg h]
    cases tried
    · clear h
      unfold evFn sc_eRaise rv_eRaise
      refine eS fun K1 hn1 hr1 he1 => ?_
      refine eO fun K2 hk2 => ?_
      refine tL0 ?_
      refine hk2 _ ?_
      refine hn1 (some ([2, 3, 4, 5], none)) _ ?_
      refine eS fun K3 hn3 hr3 he3 => ?_
      refine eS fun K4 hn4 hr4 he4 => ?_
      refine eO fun K5 hk5 => ?_
      refine tC0 2 ?_
      refine tC0 3 ?_
      refine tL0 ?_
      refine hk5 _ ?_
      refine hn4 (some ([2, 3, 4, 5, 11], none)) _ ?_
      refine eCf ?_
      refine hn3 (some ([2, 3, 4, 5], none)) _ ?_
      refine eS fun K6 hn6 hr6 he6 => ?_
      refine eP ([]) [2, 3, 4, 5] [0, 1, 2, 3, 4, 5, 7, 9] [6, 8, 10] (by kernel_rfl) (fun K7 hk7 => ?_)
      refine sp0 ?_
      have F1 := @shPP
      refine evP_take 3 fun K8 hk8 => ?_
      refine sh1 F1 ?_
      refine sd ?_
      refine hk8 _ ?_
      refine evP_take 1 fun K9 hk9 => ?_
      refine sh1 F1 ?_
      refine sd ?_
      refine hk9 _ ?_
      refine sh1 F1 ?_
      refine hk7 _ (by rfl) (fun K10 hk10 => ?_)
      refine sp0 ?_
      refine toKL ?_
      refine tC 1 F1 ?_
      refine tC 1 F1 ?_
      refine tZ F1 ?_
      refine hk10 _ ?_
      refine so0 ?_
      refine hn6 (some ([2, 3, 4, 5], none)) _ ?_
      refine eS fun K11 hn11 hr11 he11 => ?_
      refine eP ([]) [4, 5] [0, 1, 2, 3, 4, 5, 6, 7] [8, 9] (by kernel_rfl) (fun K12 hk12 => ?_)
      refine sp0 ?_
      have F2 := And.intro F1 @shPP
      refine evP_take 1 fun K13 hk13 => ?_
      refine sh1 F2 ?_
      refine sd ?_
      refine hk13 _ ?_
      refine evP_take 2 fun K14 hk14 => ?_
      refine sh1 F2 ?_
      refine sd ?_
      refine hk14 _ ?_
      refine evP_take 2 fun K15 hk15 => ?_
      refine sh1 F2 ?_
      refine sd ?_
      refine hk15 _ ?_
      refine evP_take 2 fun K16 hk16 => ?_
      refine sh1 F2 ?_
      refine sd ?_
      refine hk16 _ ?_
      refine sh1 F2 ?_
      refine hk12 _ (by rfl) (fun K17 hk17 => ?_)
      refine sp0 ?_
      refine toKL ?_
      refine tC 1 F2 ?_
      refine tZ F2 ?_
      refine hk17 _ ?_
      refine so0 ?_
      refine hn11 (some ([4, 5], none)) _ ?_
      refine sg1 F2 ?_
      rfl
    · have h2 : ok = false := by cases ok; rfl; exact absurd ⟨rfl, rfl⟩ h
      subst h2
      clear h
      unfold evFn sc_eRaise rv_eRaise
      refine eS fun K1 hn1 hr1 he1 => ?_
      refine eO fun K2 hk2 => ?_
      refine tL0 ?_
      refine hk2 _ ?_
      refine hn1 (some ([2, 3, 4, 5], none)) _ ?_
      refine eS fun K3 hn3 hr3 he3 => ?_
      refine eS fun K4 hn4 hr4 he4 => ?_
      refine eO fun K5 hk5 => ?_
      refine tC0 2 ?_
      refine tC0 3 ?_
      refine tL0 ?_
      refine hk5 _ ?_
      refine hn4 (some ([2, 3, 4, 5, 11], none)) _ ?_
      refine eCf ?_
      refine hn3 (some ([2, 3, 4, 5], none)) _ ?_
      refine eS fun K6 hn6 hr6 he6 => ?_
      refine eP ([]) [2, 3, 4, 5] [0, 1, 2, 3, 4, 5, 7, 9] [6, 8, 10] (by kernel_rfl) (fun K7 hk7 => ?_)
      refine sp0 ?_
      have F1 := @shPP
      refine evP_take 3 fun K8 hk8 => ?_
      refine sh1 F1 ?_
      refine sd ?_
      refine hk8 _ ?_
      refine evP_take 1 fun K9 hk9 => ?_
      refine sh1 F1 ?_
      refine sd ?_
      refine hk9 _ ?_
      refine sh1 F1 ?_
      refine hk7 _ (by rfl) (fun K10 hk10 => ?_)
      refine sp0 ?_
      refine toKL ?_
      refine tC 1 F1 ?_
      refine tC 1 F1 ?_
      refine tZ F1 ?_
      refine hk10 _ ?_
      refine so0 ?_
      refine hn6 (some ([2, 3, 4, 5], none)) _ ?_
      refine eS fun K11 hn11 hr11 he11 => ?_
      refine eP ([]) [4, 5] [0, 1, 2, 3, 4, 5, 6, 7] [8, 9] (by kernel_rfl) (fun K12 hk12 => ?_)
      refine sp0 ?_
      have F2 := And.intro F1 @shPP
      refine evP_take 1 fun K13 hk13 => ?_
      refine sh1 F2 ?_
      refine sd ?_
      refine hk13 _ ?_
      refine evP_take 2 fun K14 hk14 => ?_
      refine sh1 F2 ?_
      refine sd ?_
      refine hk14 _ ?_
      refine evP_take 2 fun K15 hk15 => ?_
      refine sh1 F2 ?_
      refine sd ?_
      refine hk15 _ ?_
      refine evP_take 2 fun K16 hk16 => ?_
      refine sh1 F2 ?_
      refine sd ?_
      refine hk16 _ ?_
      refine sh1 F2 ?_
      refine hk12 _ (by rfl) (fun K17 hk17 => ?_)
      refine sp0 ?_
      refine toKL ?_
      refine tC 1 F2 ?_
      refine tZ F2 ?_
      refine hk17 _ ?_
      refine so0 ?_
      refine hn11 (some ([4, 5], none)) _ ?_
      refine sg1 F2 ?_
      rfl
theorem enters_eEnter1 : Enters 80 := callFunc_enter Tryz.func80 rfl rfl
theorem enters_eAnn : Enters 82 := callFunc_enter Tryz.func82 rfl rfl
theorem enters_eAnn1 : Enters 103 := callFunc_enter Tryz.func103 rfl rfl
theorem enters_eCompare : Enters 104 := callFunc_enter Tryz.func104 rfl rfl
theorem enters_eLeave1 : Enters 83 := callFunc_enter Tryz.func83 rfl rfl
theorem enters_eLeave2 : Enters 84 := callFunc_enter Tryz.func84 rfl rfl
theorem enters_eAdv1 : Enters 86 := callFunc_enter Tryz.func86 rfl rfl
theorem enters_eRaise : Enters 87 := callFunc_enter Tryz.func87 rfl rfl
theorem enters_fnE : ∀ p, Enters (fnE p)
  | .enter => enters_eEnter1 | .ann => enters_eAnn | .ann1 => enters_eAnn1 | .cmp => enters_eCompare | .leave1 => enters_eLeave1 | .leave2 => enters_eLeave2 | .adv1 => enters_eAdv1 | .raise => enters_eRaise
theorem ok_fnE (s : EraV) (g : GotV) : Ok (fnE s.pos) [.agg (cEra s), .agg (eGot g)] (eStep (eraDo s g)) := by
  obtain ⟨era, mine, found, time, tried, over, pos⟩ := s
  cases pos
  · exact ok_eEnter1 ⟨era, mine, found, time, tried, over, .enter⟩ g
  · exact ok_eAnn ⟨era, mine, found, time, tried, over, .ann⟩ g
  · exact ok_eAnn1 ⟨era, mine, found, time, tried, over, .ann1⟩ g
  · exact ok_eCompare ⟨era, mine, found, time, tried, over, .cmp⟩ g
  · exact ok_eLeave1 ⟨era, mine, found, time, tried, over, .leave1⟩ g
  · exact ok_eLeave2 ⟨era, mine, found, time, tried, over, .leave2⟩ g
  · exact ok_eAdv1 ⟨era, mine, found, time, tried, over, .adv1⟩ g
  · exact ok_eRaise ⟨era, mine, found, time, tried, over, .raise⟩ g
def eraNext (s : EraV) (g : GotV) : EraV × ActM × Bool :=
  if s.over = true then (s, zAct, true) else ((eraDo s g).1, (eraDo s g).2, (eraDo s g).1.over)
set_option maxRecDepth 20000 in
theorem ok_eNext (s : EraV) (g : GotV) : Ok 170 [.agg (cEra s), .agg (eGot g)] (.tup [.ifc 148 (.agg (cEra (eraNext s g).1)), .agg (eAct4 (eraNext s g).2.1), sB (eraNext s g).2.2]) := by
  refine ok_of_tr Tryz.func170 tr_eNext rfl ?_
  have hE := enters_fnE s.pos
  have hok := ok_fnE s g
  unfold eraNext
  generalize eraDo s g = R at hok ⊢
  obtain ⟨R1, R2⟩ := R
  obtain ⟨era, mine, found, time, tried, over, pos⟩ := s
  simp only at hE hok ⊢
  cases over
  case true =>
    rw [if_pos rfl]
    unfold evFn sc_eNext rv_eNext
    refine eS fun K1 hn1 hr1 he1 => ?_
    refine eO fun K2 hk2 => ?_
    refine tL0 ?_
    refine hk2 _ ?_
    refine hn1 (some ([2, 3, 5], none)) _ ?_
    refine eS fun K3 hn3 hr3 he3 => ?_
    refine eS fun K4 hn4 hr4 he4 => ?_
    refine eO fun K5 hk5 => ?_
    refine tZ0 ?_
    refine hk5 _ ?_
    refine hn4 (some ([2, 3, 5, 10], none)) _ ?_
    refine eCt ?_
    refine eS fun K6 hn6 hr6 he6 => ?_
    refine eO fun K7 hk7 => ?_
    refine tC0 1 ?_
    refine tC0 4 ?_
    refine tL0 ?_
    refine hk7 _ ?_
    refine hn6 (some ([4, 5, 6], none)) _ ?_
    refine hr3 _ ?_
    refine sg0 ?_
    rfl
  rw [if_neg (by simp)]
  unfold evFn sc_eNext rv_eNext
  refine eS fun K1 hn1 hr1 he1 => ?_
  refine eO fun K2 hk2 => ?_
  refine tL0 ?_
  refine hk2 _ ?_
  refine hn1 (some ([2, 3, 5], none)) _ ?_
  refine eS fun K3 hn3 hr3 he3 => ?_
  refine eS fun K4 hn4 hr4 he4 => ?_
  refine eO fun K5 hk5 => ?_
  refine tZ0 ?_
  refine hk5 _ ?_
  refine hn4 (some ([2, 3, 5, 10], none)) _ ?_
  refine eCf ?_
  refine hn3 (some ([2, 3, 5], none)) _ ?_
  refine eS fun K6 hn6 hr6 he6 => ?_
  refine eO fun K7 hk7 => ?_
  refine tC0 2 ?_
  refine tC0 1 ?_
  refine tC0 1 ?_
  refine tS0 1 ?_
  refine ⟨hE, _, hok, ?_⟩
  refine tC0 6 ?_
  refine tZ0 ?_
  refine hk7 _ ?_
  refine hn6 (some ([5, 7, 8], none)) _ ?_
  refine eS fun K8 hn8 hr8 he8 => ?_
  refine eP ([]) [4, 5, 6] [0, 1, 2, 3, 4, 5, 7] [6] (by kernel_rfl) (fun K9 hk9 => ?_)
  refine sp0 ?_
  have F1 := @shPP
  refine evP_take 1 fun K10 hk10 => ?_
  refine sh1 F1 ?_
  refine sd ?_
  refine hk10 _ ?_
  refine evP_take 2 fun K11 hk11 => ?_
  refine sh1 F1 ?_
  refine sd ?_
  refine hk11 _ ?_
  refine evP_take 2 fun K12 hk12 => ?_
  refine sh1 F1 ?_
  refine sd ?_
  refine hk12 _ ?_
  refine sh1 F1 ?_
  refine hk9 _ (by rfl) (fun K13 hk13 => ?_)
  refine sp0 ?_
  refine toKL ?_
  refine tZ F1 ?_
  refine hk13 _ ?_
  refine so0 ?_
  refine hn8 (some ([4, 5, 6], none)) _ ?_
  exact sf1 F1
theorem next_era : MethodIs 148 "Next" 170 := by intro v w; kernel_rfl
theorem enters_era : Enters 170 := callFunc_enter Tryz.func170 rfl rfl
abbrev era : Coder where
  St := EraV
  enc s := .ifc 148 (.agg (cEra s))
  next := eraNext
  good _ _ := True
  up h _ := h
  keeps _ h := h
  shape s := ⟨_, _, rfl⟩
  ok g _ _ := ⟨_, _, _, rfl, next_era, enters_era, ok_eNext _ g⟩
/-! ### Made, checked, told -/
def newE (l : LayV) (t : Int) (p : EPos) : EraV := ⟨atL l 0 0 1, if t = 0 then 0 else atL l 1 (IntKind.i64.wrap (t - 1)) 0, 0, 0, false, false, p⟩
abbrev eMadeE : Option EraV × Int → Sh
  | (none, e) => .tup [.v .nilIface, sI e]
  | (some s, e) => .tup [.ifc 148 (.agg (cEra s)), sI e]
def madeE (l : LayV) (t : Int) (p : EPos) : Option EraV × Int := if checkL l = 0 then (some (newE l t p), 0) else (none, 1)
set_option maxHeartbeats 1000000 in
theorem ok_eraMade (l : LayV) (t : Int) (ht : -9223372036854775808 ≤ t ∧ t ≤ 9223372036854775807) (p : EPos) : Ok 79 [.agg (eLay l), sI t, shE p] (eMadeE (madeE l t p)) := by
  refine ok_of_tr Tryz.func79 tr_eraMade rfl ?_
  have k0 := ok_layCheck l
  have k1 := ok_layEra l
  have k2 := ok_layAnn l t ht
  unfold madeE
  by_cases h : checkL l = 0
  case neg =>
    rw [if_neg h]
    have d : (checkL l != 0) = true := by simpa using h
    generalize checkL l = e at k0 d
    unfold evFn sc_eraMade rv_eraMade
    have F1 := @d
    refine eS fun K1 hn1 hr1 he1 => ?_
    refine eO fun K2 hk2 => ?_
    refine tL F1 ?_
    refine hk2 _ ?_
    refine hn1 (some ([1, 2, 3], none)) _ ?_
    refine eS fun K3 hn3 hr3 he3 => ?_
    refine eS fun K4 hn4 hr4 he4 => ?_
    refine eO fun K5 hk5 => ?_
    refine tC 1 F1 ?_
    refine tS 1 F1 ?_
    refine Or.inl (Or.inl ⟨_, k0, ?_⟩)
    refine tZ F1 ?_
    refine hk5 _ ?_
    refine hn4 (some ([1, 2, 3, 11], none)) _ ?_
    refine eCt ?_
    refine eS fun K6 hn6 hr6 he6 => ?_
    refine eO fun K7 hk7 => ?_
    refine tL F1 ?_
    refine hk7 _ ?_
    refine hn6 (some ([6, 7], none)) _ ?_
    refine hr3 _ ?_
    exact sf1 F1
  rw [if_pos h]
  rw [h] at k0
  unfold newE
  generalize atL l 0 0 1 = x at k1 ⊢
  generalize atL l 1 (IntKind.i64.wrap (t - 1)) 0 = y at k2 ⊢
  by_cases h2 : t = 0
  · subst h2
    rw [if_pos rfl]
    unfold evFn sc_eraMade rv_eraMade
    refine eS fun K1 hn1 hr1 he1 => ?_
    refine eO fun K2 hk2 => ?_
    refine tL0 ?_
    refine hk2 _ ?_
    refine hn1 (some ([1, 2, 3], none)) _ ?_
    refine eS fun K3 hn3 hr3 he3 => ?_
    refine eS fun K4 hn4 hr4 he4 => ?_
    refine eO fun K5 hk5 => ?_
    refine tC0 1 ?_
    refine tS0 1 ?_
    refine Or.inl (Or.inl ⟨_, k0, ?_⟩)
    refine tZ0 ?_
    refine hk5 _ ?_
    refine hn4 (some ([1, 2, 3, 11], none)) _ ?_
    refine eCf ?_
    refine hn3 (some ([1, 2, 3], none)) _ ?_
    refine eS fun K6 hn6 hr6 he6 => ?_
    refine eO fun K7 hk7 => ?_
    refine tC0 1 ?_
    refine tS0 1 ?_
    refine Or.inl (Or.inl ⟨_, k1, ?_⟩)
    refine tZ0 ?_
    refine hk7 _ ?_
    refine hn6 (some ([1, 3, 8], none)) _ ?_
    refine eS fun K8 hn8 hr8 he8 => ?_
    refine eS fun K9 hn9 hr9 he9 => ?_
    refine eO fun K10 hk10 => ?_
    refine tZ0 ?_
    refine hk10 _ ?_
    refine hn9 (some ([1, 3, 8, 17], none)) _ ?_
    refine eCf ?_
    refine hn8 (some ([8], none)) _ ?_
    refine eS fun K11 hn11 hr11 he11 => ?_
    refine eO fun K12 hk12 => ?_
    refine tC0 1 ?_
    refine tL0 ?_
    refine hk12 _ ?_
    refine hn11 (some ([6, 7], none)) _ ?_
    exact sf0
  · rw [if_neg h2]
    have d2 : (t != 0) = true := by simpa using h2
    unfold evFn sc_eraMade rv_eraMade
    have F1 := @d2
    refine eS fun K1 hn1 hr1 he1 => ?_
    refine eO fun K2 hk2 => ?_
    refine tL F1 ?_
    refine hk2 _ ?_
    refine hn1 (some ([1, 2, 3], none)) _ ?_
    refine eS fun K3 hn3 hr3 he3 => ?_
    refine eS fun K4 hn4 hr4 he4 => ?_
    refine eO fun K5 hk5 => ?_
    refine tC 1 F1 ?_
    refine tS 1 F1 ?_
    refine Or.inl (Or.inl ⟨_, k0, ?_⟩)
    refine tZ F1 ?_
    refine hk5 _ ?_
    refine hn4 (some ([1, 2, 3, 11], none)) _ ?_
    refine eCf ?_
    refine hn3 (some ([1, 2, 3], none)) _ ?_
    refine eS fun K6 hn6 hr6 he6 => ?_
    refine eO fun K7 hk7 => ?_
    refine tC 1 F1 ?_
    refine tS 1 F1 ?_
    refine Or.inl (Or.inl ⟨_, k1, ?_⟩)
    refine tZ F1 ?_
    refine hk7 _ ?_
    refine hn6 (some ([1, 3, 8], none)) _ ?_
    refine eS fun K8 hn8 hr8 he8 => ?_
    refine eS fun K9 hn9 hr9 he9 => ?_
    refine eO fun K10 hk10 => ?_
    refine tZ F1 ?_
    refine hk10 _ ?_
    refine hn9 (some ([1, 3, 8, 17], none)) _ ?_
    refine eCt ?_
    refine eO fun K11 hk11 => ?_
    refine tC 1 F1 ?_
    refine tS 1 F1 ?_
    refine tS 1 F1 ?_
    refine Or.inl (Or.inl ⟨_, k2, ?_⟩)
    refine tZ F1 ?_
    refine hk11 _ ?_
    refine hn8 (some ([8], none)) _ ?_
    refine eS fun K12 hn12 hr12 he12 => ?_
    refine eO fun K13 hk13 => ?_
    refine tC 1 F1 ?_
    refine tL F1 ?_
    refine hk13 _ ?_
    refine hn12 (some ([6, 7], none)) _ ?_
    exact sf1 F1
def checkE (l : LayV) (t : Int) : Int := if checkL l = 0 then (if t < 1 ∨ l.threads < t then 3 else 0) else 1
set_option maxHeartbeats 1000000 in
theorem ok_eraCheck (l : LayV) (t : Int) : Ok 78 [.agg (eLay l), sI t] (sI (checkE l t)) := by
  refine ok_of_tr Tryz.func78 tr_eraCheck rfl ?_
  have k0 := ok_layCheck l
  unfold checkE
  by_cases h : checkL l = 0
  case neg =>
    rw [if_neg h]
    have d : (checkL l != 0) = true := by simpa using h
    generalize checkL l = e at k0 d
    unfold evFn sc_eraCheck rv_eraCheck
    have F1 := @d
    refine eS fun K1 hn1 hr1 he1 => ?_
    refine eO fun K2 hk2 => ?_
    refine tL F1 ?_
    refine hk2 _ ?_
    refine hn1 (some ([1, 2], none)) _ ?_
    refine eS fun K3 hn3 hr3 he3 => ?_
    refine eB fun K4 hn4 hx4 hr4 he4 => ?_
    refine eS fun K5 hn5 hr5 he5 => ?_
    refine eO fun K6 hk6 => ?_
    refine tC 1 F1 ?_
    refine tS 1 F1 ?_
    refine Or.inl (Or.inl ⟨_, k0, ?_⟩)
    refine tC 1 F1 ?_
    refine tL F1 ?_
    refine hk6 _ ?_
    refine hn5 (some ([1, 2, 5], none)) _ ?_
    refine eCt ?_
    refine eS fun K7 hn7 hr7 he7 => ?_
    refine eO fun K8 hk8 => ?_
    refine tL F1 ?_
    refine hk8 _ ?_
    refine hn7 (some ([4], none)) _ ?_
    refine hr4 _ ?_
    refine hr3 _ ?_
    exact sf1 F1
  rw [if_pos h]
  rw [h] at k0
  by_cases h1 : t < 1
  · rw [if_pos (.inl h1)]
    unfold evFn sc_eraCheck rv_eraCheck
    have F1 := @h1
    refine eS fun K1 hn1 hr1 he1 => ?_
    refine eO fun K2 hk2 => ?_
    refine tL F1 ?_
    refine hk2 _ ?_
    refine hn1 (some ([1, 2], none)) _ ?_
    refine eS fun K3 hn3 hr3 he3 => ?_
    refine eB fun K4 hn4 hx4 hr4 he4 => ?_
    refine eS fun K5 hn5 hr5 he5 => ?_
    refine eO fun K6 hk6 => ?_
    refine tC 1 F1 ?_
    refine tS 1 F1 ?_
    refine Or.inl (Or.inl ⟨_, k0, ?_⟩)
    refine tC 1 F1 ?_
    refine tL F1 ?_
    refine hk6 _ ?_
    refine hn5 (some ([1, 2, 5], none)) _ ?_
    refine eCf ?_
    refine eS fun K7 hn7 hr7 he7 => ?_
    refine eO fun K8 hk8 => ?_
    refine tC 2 F1 ?_
    refine tC 4 F1 ?_
    refine tC 1 F1 ?_
    refine tL F1 ?_
    refine hk8 _ ?_
    refine hn7 (some ([9], none)) _ ?_
    refine eCt ?_
    refine eS fun K9 hn9 hr9 he9 => ?_
    refine eO fun K10 hk10 => ?_
    refine tL F1 ?_
    refine hk10 _ ?_
    refine hn9 (some ([4], none)) _ ?_
    refine hr4 _ ?_
    refine hr3 _ ?_
    exact sf1 F1
  by_cases h2 : l.threads < t
  · rw [if_pos (.inr h2)]
    unfold evFn sc_eraCheck rv_eraCheck
    have F1 := And.intro @h1 @h2
    refine eS fun K1 hn1 hr1 he1 => ?_
    refine eO fun K2 hk2 => ?_
    refine tL F1 ?_
    refine hk2 _ ?_
    refine hn1 (some ([1, 2], none)) _ ?_
    refine eS fun K3 hn3 hr3 he3 => ?_
    refine eB fun K4 hn4 hx4 hr4 he4 => ?_
    refine eS fun K5 hn5 hr5 he5 => ?_
    refine eO fun K6 hk6 => ?_
    refine tC 1 F1 ?_
    refine tS 1 F1 ?_
    refine Or.inl (Or.inl ⟨_, k0, ?_⟩)
    refine tC 1 F1 ?_
    refine tL F1 ?_
    refine hk6 _ ?_
    refine hn5 (some ([1, 2, 5], none)) _ ?_
    refine eCf ?_
    refine eS fun K7 hn7 hr7 he7 => ?_
    refine eO fun K8 hk8 => ?_
    refine tC 2 F1 ?_
    refine tC 4 F1 ?_
    refine tC 1 F1 ?_
    refine tL F1 ?_
    refine hk8 _ ?_
    refine hn7 (some ([9], none)) _ ?_
    refine eCt ?_
    refine eS fun K9 hn9 hr9 he9 => ?_
    refine eO fun K10 hk10 => ?_
    refine tL F1 ?_
    refine hk10 _ ?_
    refine hn9 (some ([4], none)) _ ?_
    refine hr4 _ ?_
    refine hr3 _ ?_
    exact sf1 F1
  · rw [if_neg (by omega)]
    unfold evFn sc_eraCheck rv_eraCheck
    have F1 := And.intro @h1 @h2
    refine eS fun K1 hn1 hr1 he1 => ?_
    refine eO fun K2 hk2 => ?_
    refine tL F1 ?_
    refine hk2 _ ?_
    refine hn1 (some ([1, 2], none)) _ ?_
    refine eS fun K3 hn3 hr3 he3 => ?_
    refine eB fun K4 hn4 hx4 hr4 he4 => ?_
    refine eS fun K5 hn5 hr5 he5 => ?_
    refine eO fun K6 hk6 => ?_
    refine tC 1 F1 ?_
    refine tS 1 F1 ?_
    refine Or.inl (Or.inl ⟨_, k0, ?_⟩)
    refine tC 1 F1 ?_
    refine tL F1 ?_
    refine hk6 _ ?_
    refine hn5 (some ([1, 2, 5], none)) _ ?_
    refine eCf ?_
    refine eS fun K7 hn7 hr7 he7 => ?_
    refine eO fun K8 hk8 => ?_
    refine tC 2 F1 ?_
    refine tC 4 F1 ?_
    refine tC 1 F1 ?_
    refine tL F1 ?_
    refine hk8 _ ?_
    refine hn7 (some ([9], none)) _ ?_
    refine eCf ?_
    refine hn4 _ ?_
    refine hn3 (some ([], none)) _ ?_
    refine eS fun K9 hn9 hr9 he9 => ?_
    refine eO fun K10 hk10 => ?_
    refine tL F1 ?_
    refine hk10 _ ?_
    refine hn9 (some ([4], none)) _ ?_
    exact sf1 F1
def enterE (l : LayV) (t : Int) (p : EPos) : Option EraV × Int := if checkE l t = 0 then (some (newE l t p), 0) else (none, checkE l t)
theorem ok_eraEnter (l : LayV) (t : Int) (ht : -9223372036854775808 ≤ t ∧ t ≤ 9223372036854775807) : Ok 51 [.agg (eLay l), sI t] (eMadeE (enterE l t .enter)) := by
  refine ok_of_tr Tryz.func51 tr_eraEnter rfl ?_
  have k0 := ok_eraCheck l t
  have k1 := ok_eraMade l t ht .enter
  unfold enterE
  by_cases h : checkE l t = 0
  · rw [if_pos h]
    have hc : checkL l = 0 := by
      unfold checkE at h
      split at h
      · assumption
      · cases h
    rw [h] at k0
    unfold madeE at k1
    rw [if_pos hc] at k1
    unfold evFn sc_eraEnter rv_eraEnter
    refine eS fun K1 hn1 hr1 he1 => ?_
    refine eO fun K2 hk2 => ?_
    refine tL0 ?_
    refine hk2 _ ?_
    refine hn1 (some ([1, 2], none)) _ ?_
    refine eS fun K3 hn3 hr3 he3 => ?_
    refine eS fun K4 hn4 hr4 he4 => ?_
    refine eO fun K5 hk5 => ?_
    refine tC0 1 ?_
    refine tS0 1 ?_
    refine tS0 1 ?_
    refine Or.inl (Or.inl ⟨_, k0, ?_⟩)
    refine tL0 ?_
    refine hk5 _ ?_
    refine hn4 (some ([1, 2, 6], none)) _ ?_
    refine eS fun K6 hn6 hr6 he6 => ?_
    refine eO fun K7 hk7 => ?_
    refine tZ0 ?_
    refine hk7 _ ?_
    refine hn6 (some ([1, 2, 6, 11], none)) _ ?_
    refine eCf ?_
    refine hn3 (some ([1, 2], none)) _ ?_
    refine eS fun K8 hn8 hr8 he8 => ?_
    refine eO fun K9 hk9 => ?_
    refine tC0 1 ?_
    refine tS0 1 ?_
    refine tS0 1 ?_
    refine Or.inl (Or.inl ⟨_, k1, ?_⟩)
    refine tL0 ?_
    refine hk9 _ ?_
    refine hn8 (some ([4, 5], none)) _ ?_
    exact sf0
  · rw [if_neg h]
    have d : (checkE l t != 0) = true := by simpa using h
    generalize checkE l t = e at k0 d ⊢
    unfold evFn sc_eraEnter rv_eraEnter
    have F1 := @d
    refine eS fun K1 hn1 hr1 he1 => ?_
    refine eO fun K2 hk2 => ?_
    refine tL F1 ?_
    refine hk2 _ ?_
    refine hn1 (some ([1, 2], none)) _ ?_
    refine eS fun K3 hn3 hr3 he3 => ?_
    refine eS fun K4 hn4 hr4 he4 => ?_
    refine eO fun K5 hk5 => ?_
    refine tC 1 F1 ?_
    refine tS 1 F1 ?_
    refine tS 1 F1 ?_
    refine Or.inl (Or.inl ⟨_, k0, ?_⟩)
    refine tL F1 ?_
    refine hk5 _ ?_
    refine hn4 (some ([1, 2, 6], none)) _ ?_
    refine eS fun K6 hn6 hr6 he6 => ?_
    refine eO fun K7 hk7 => ?_
    refine tZ F1 ?_
    refine hk7 _ ?_
    refine hn6 (some ([1, 2, 6, 11], none)) _ ?_
    refine eCt ?_
    refine eS fun K8 hn8 hr8 he8 => ?_
    refine eO fun K9 hk9 => ?_
    refine tL F1 ?_
    refine hk9 _ ?_
    refine hn8 (some ([4, 5], none)) _ ?_
    refine hr3 _ ?_
    exact sf1 F1
theorem ok_eraLeave (l : LayV) (t : Int) (ht : -9223372036854775808 ≤ t ∧ t ≤ 9223372036854775807) : Ok 52 [.agg (eLay l), sI t] (eMadeE (enterE l t .leave1)) := by
  refine ok_of_tr Tryz.func52 tr_eraLeave rfl ?_
  have k0 := ok_eraCheck l t
  have k1 := ok_eraMade l t ht .leave1
  unfold enterE
  by_cases h : checkE l t = 0
  · rw [if_pos h]
    have hc : checkL l = 0 := by
      unfold checkE at h
      split at h
      · assumption
      · cases h
    rw [h] at k0
    unfold madeE at k1
    rw [if_pos hc] at k1
    unfold evFn sc_eraLeave rv_eraLeave
    refine eS fun K1 hn1 hr1 he1 => ?_
    refine eO fun K2 hk2 => ?_
    refine tL0 ?_
    refine hk2 _ ?_
    refine hn1 (some ([1, 2], none)) _ ?_
    refine eS fun K3 hn3 hr3 he3 => ?_
    refine eS fun K4 hn4 hr4 he4 => ?_
    refine eO fun K5 hk5 => ?_
    refine tC0 1 ?_
    refine tS0 1 ?_
    refine tS0 1 ?_
    refine Or.inl (Or.inl ⟨_, k0, ?_⟩)
    refine tL0 ?_
    refine hk5 _ ?_
    refine hn4 (some ([1, 2, 6], none)) _ ?_
    refine eS fun K6 hn6 hr6 he6 => ?_
    refine eO fun K7 hk7 => ?_
    refine tZ0 ?_
    refine hk7 _ ?_
    refine hn6 (some ([1, 2, 6, 11], none)) _ ?_
    refine eCf ?_
    refine hn3 (some ([1, 2], none)) _ ?_
    refine eS fun K8 hn8 hr8 he8 => ?_
    refine eO fun K9 hk9 => ?_
    refine tC0 1 ?_
    refine tS0 1 ?_
    refine tS0 1 ?_
    refine Or.inl (Or.inl ⟨_, k1, ?_⟩)
    refine tL0 ?_
    refine hk9 _ ?_
    refine hn8 (some ([4, 5], none)) _ ?_
    exact sf0
  · rw [if_neg h]
    have d : (checkE l t != 0) = true := by simpa using h
    generalize checkE l t = e at k0 d ⊢
    unfold evFn sc_eraLeave rv_eraLeave
    have F1 := @d
    refine eS fun K1 hn1 hr1 he1 => ?_
    refine eO fun K2 hk2 => ?_
    refine tL F1 ?_
    refine hk2 _ ?_
    refine hn1 (some ([1, 2], none)) _ ?_
    refine eS fun K3 hn3 hr3 he3 => ?_
    refine eS fun K4 hn4 hr4 he4 => ?_
    refine eO fun K5 hk5 => ?_
    refine tC 1 F1 ?_
    refine tS 1 F1 ?_
    refine tS 1 F1 ?_
    refine Or.inl (Or.inl ⟨_, k0, ?_⟩)
    refine tL F1 ?_
    refine hk5 _ ?_
    refine hn4 (some ([1, 2, 6], none)) _ ?_
    refine eS fun K6 hn6 hr6 he6 => ?_
    refine eO fun K7 hk7 => ?_
    refine tZ F1 ?_
    refine hk7 _ ?_
    refine hn6 (some ([1, 2, 6, 11], none)) _ ?_
    refine eCt ?_
    refine eS fun K8 hn8 hr8 he8 => ?_
    refine eO fun K9 hk9 => ?_
    refine tL F1 ?_
    refine hk9 _ ?_
    refine hn8 (some ([4, 5], none)) _ ?_
    refine hr3 _ ?_
    exact sf1 F1
theorem ok_eraAdvance (l : LayV) : Ok 53 [.agg (eLay l)] (eMadeE (madeE l 0 .adv1)) := by
  refine ok_of_tr Tryz.func53 tr_eraAdvance rfl ?_
  have k1 := ok_eraMade l 0 (by omega) .adv1
  unfold madeE at k1 ⊢
  by_cases h : checkL l = 0
  · rw [if_pos h] at k1 ⊢
    unfold evFn sc_eraAdvance rv_eraAdvance
    refine eS fun K1 hn1 hr1 he1 => ?_
    refine eO fun K2 hk2 => ?_
    refine tL0 ?_
    refine hk2 _ ?_
    refine hn1 (some ([1], none)) _ ?_
    refine eS fun K3 hn3 hr3 he3 => ?_
    refine eO fun K4 hk4 => ?_
    refine tC0 1 ?_
    refine tS0 1 ?_
    refine Or.inl (Or.inl ⟨_, k1, ?_⟩)
    refine tL0 ?_
    refine hk4 _ ?_
    refine hn3 (some ([2, 3], none)) _ ?_
    exact sf0
  · rw [if_neg h] at k1 ⊢
    unfold evFn sc_eraAdvance rv_eraAdvance
    refine eS fun K1 hn1 hr1 he1 => ?_
    refine eO fun K2 hk2 => ?_
    refine tL0 ?_
    refine hk2 _ ?_
    refine hn1 (some ([1], none)) _ ?_
    refine eS fun K3 hn3 hr3 he3 => ?_
    refine eO fun K4 hk4 => ?_
    refine tC0 1 ?_
    refine tS0 1 ?_
    refine Or.inl (Or.inl ⟨_, k1, ?_⟩)
    refine tL0 ?_
    refine hk4 _ ?_
    refine hn3 (some ([2, 3], none)) _ ?_
    exact sf0
theorem ok_eraEra (s : EraV) : Ok 44 [.ifc 148 (.agg (cEra s))] (.tup [sI (if s.over = true then s.time else 0), sB s.over]) := by
  refine ok_of_tr Tryz.func44 tr_eraEra rfl ?_
  obtain ⟨era, mine, found, time, tried, over, pos⟩ := s
  cases over
  · skip
    unfold evFn sc_eraEra rv_eraEra
    refine eS fun K1 hn1 hr1 he1 => ?_
    refine eO fun K2 hk2 => ?_
    refine tL0 ?_
    refine hk2 _ ?_
    refine hn1 (some ([0], none)) _ ?_
    refine eS fun K3 hn3 hr3 he3 => ?_
    refine eO fun K4 hk4 => ?_
    refine tS0 1 ?_
    refine tS0 1 ?_
    refine ⟨_, gen_asr_yes Tryz.underlying148 rfl, ?_⟩
    refine tC0 5 ?_
    refine tL0 ?_
    refine hk4 _ ?_
    refine hn3 (some ([4, 5], none)) _ ?_
    refine eS fun K5 hn5 hr5 he5 => ?_
    refine eS fun K6 hn6 hr6 he6 => ?_
    refine eO fun K7 hk7 => ?_
    refine tC0 5 ?_
    refine tL0 ?_
    refine hk7 _ ?_
    refine hn6 (some ([4, 17], none)) _ ?_
    refine eCt ?_
    refine eS fun K8 hn8 hr8 he8 => ?_
    refine eO fun K9 hk9 => ?_
    refine tL0 ?_
    refine hk9 _ ?_
    refine hn8 (some ([2, 3], none)) _ ?_
    refine hr5 _ ?_
    exact sf0
  · skip
    unfold evFn sc_eraEra rv_eraEra
    refine eS fun K1 hn1 hr1 he1 => ?_
    refine eO fun K2 hk2 => ?_
    refine tL0 ?_
    refine hk2 _ ?_
    refine hn1 (some ([0], none)) _ ?_
    refine eS fun K3 hn3 hr3 he3 => ?_
    refine eO fun K4 hk4 => ?_
    refine tS0 1 ?_
    refine tS0 1 ?_
    refine ⟨_, gen_asr_yes Tryz.underlying148 rfl, ?_⟩
    refine tC0 5 ?_
    refine tL0 ?_
    refine hk4 _ ?_
    refine hn3 (some ([4, 5], none)) _ ?_
    refine eS fun K5 hn5 hr5 he5 => ?_
    refine eS fun K6 hn6 hr6 he6 => ?_
    refine eO fun K7 hk7 => ?_
    refine tC0 5 ?_
    refine tL0 ?_
    refine hk7 _ ?_
    refine hn6 (some ([4, 17], none)) _ ?_
    refine eCf ?_
    refine hn5 (some ([4], none)) _ ?_
    refine eS fun K8 hn8 hr8 he8 => ?_
    refine eO fun K9 hk9 => ?_
    refine tC0 2 ?_
    refine tL0 ?_
    refine hk9 _ ?_
    refine hn8 (some ([2, 3], none)) _ ?_
    exact sf0
end Go.Proofs.YtkbgdhomdbolnaaGreatDoor
