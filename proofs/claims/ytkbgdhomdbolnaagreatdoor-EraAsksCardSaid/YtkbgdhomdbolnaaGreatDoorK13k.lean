/-
  Layer 13 by shadows: the reference of EraAsks.
-/
import Derived.Test.YtkbgdhomdbolnaaGreatDoorK8a
import Derived.Test.YtkbgdhomdbolnaaGreatDoorSc13l
import Derived.Test.YtkbgdhomdbolnaaGreatDoorMC
namespace Go.Proofs.YtkbgdhomdbolnaaGreatDoor
set_option linter.unusedSimpArgs false
set_option linter.unusedVariables false
open Go.RowKit Go.Maps

structure KindE where
  what : Int
  era : Int
  mine : Int
structure RefE where
  pt : Int
  last : WordV
  fin : Bool
  era : Int
abbrev cKindE (k : KindE) : List Sh := [sI k.what, sI k.era, sI k.mine]
abbrev cRefE (s : RefE) : List Sh := [sI s.pt, sI s.last.val, sU s.last.ver, sU s.last.ref, sB s.fin, sI s.era]
def refN (k : KindE) (s : RefE) (g : GotV) : RefE × ActM :=
  if s.fin = true then (s, zAct)
  else if k.what = 1 then (if s.pt = 0 then (⟨1, zWord, false, 0⟩, ⟨4, k.mine, zWord, zWord⟩) else (⟨2, zWord, true, 0⟩, zAct))
  else if s.pt = 0 then (⟨1, zWord, false, 0⟩, ⟨5, k.era, zWord, zWord⟩)
  else if k.what = 2 then (if s.pt = 2 ∧ g.ok = true then (⟨3, zWord, true, IntKind.i64.wrap (s.last.val + 1)⟩, zAct) else (⟨2, g.word, false, 0⟩, ⟨6, k.era, g.word, ⟨IntKind.i64.wrap (g.word.val + 1), 0, 0⟩⟩))
  else if s.pt = 2 then (⟨3, s.last, false, 0⟩, ⟨5, k.era, zWord, zWord⟩)
  else if s.pt = 3 ∧ g.word.val = s.last.val then (⟨4, zWord, true, s.last.val⟩, zAct)
  else (⟨2, g.word, false, 0⟩, ⟨4, k.mine, zWord, ⟨g.word.val, 0, 0⟩⟩)
abbrev eRefR (r : RefE × ActM) : Sh := .tup [.agg (cRefE r.1), .agg (eAct4 r.2)]
theorem ok_r13value (v : Int) : Ok 73 [sI v] (.agg [sI v, sU 0, sU 0]) := by
  refine ok_of_tr Tryz.func73 tr_r13value rfl ?_
  unfold evFn sc_r13value rv_r13value
  refine eS fun K1 hn1 hr1 he1 => ?_
  refine eO fun K2 hk2 => ?_
  refine tL0 ?_
  refine hk2 _ ?_
  refine hn1 (some ([0, 2], none)) _ ?_
  refine eS fun K3 hn3 hr3 he3 => ?_
  refine eO fun K4 hk4 => ?_
  refine tZ0 ?_
  refine hk4 _ ?_
  refine hn3 (some ([2], none)) _ ?_
  exact sf0
set_option maxHeartbeats 4000000 in
theorem ok_r13Next (k : KindE) (s : RefE) (g : GotV) : Ok 42 [.agg (cKindE k), .agg (cRefE s), .agg (eGot g)] (eRefR (refN k s g)) := by
  refine ok_of_tr Tryz.func42 tr_r13Next rfl ?_
  obtain ⟨what, era, mine⟩ := k
  obtain ⟨a, ⟨lv, lw, lr⟩, fin, e⟩ := s
  obtain ⟨⟨gv, gw, gr⟩, ok⟩ := g
  have kv := fun v => ok_r13value v
  unfold refN
  simp only
  cases fin
  case true =>
    rw [if_pos rfl]
    unfold evFn sc_r13Next rv_r13Next
    refine eS fun K1 hn1 hr1 he1 => ?_
    refine eO fun K2 hk2 => ?_
    refine tL0 ?_
    refine hk2 _ ?_
    refine hn1 (some ([3, 4, 5, 6, 7], none)) _ ?_
    refine eS fun K3 hn3 hr3 he3 => ?_
    refine eS fun K4 hn4 hr4 he4 => ?_
    refine eO fun K5 hk5 => ?_
    refine tZ0 ?_
    refine hk5 _ ?_
    refine hn4 (some ([3, 4, 5, 6, 7, 9], none)) _ ?_
    refine eCt ?_
    refine eS fun K6 hn6 hr6 he6 => ?_
    refine eO fun K7 hk7 => ?_
    refine tC0 1 ?_
    refine tC0 2 ?_
    refine tZ0 ?_
    refine hk7 _ ?_
    refine hn6 (some ([6, 7], none)) _ ?_
    refine hr3 _ ?_
    exact sf0
  rw [if_neg (by simp)]
  by_cases h1 : what = 1
  · subst h1
    rw [if_pos rfl]
    by_cases h2 : a = 0
    · subst h2
      rw [if_pos rfl]
      unfold evFn sc_r13Next rv_r13Next
      refine eS fun K1 hn1 hr1 he1 => ?_
      refine eO fun K2 hk2 => ?_
      refine tL0 ?_
      refine hk2 _ ?_
      refine hn1 (some ([3, 4, 5, 6, 7], none)) _ ?_
      refine eS fun K3 hn3 hr3 he3 => ?_
      refine eS fun K4 hn4 hr4 he4 => ?_
      refine eO fun K5 hk5 => ?_
      refine tZ0 ?_
      refine hk5 _ ?_
      refine hn4 (some ([3, 4, 5, 6, 7, 9], none)) _ ?_
      refine eCf ?_
      refine hn3 (some ([3, 4, 5, 6, 7], none)) _ ?_
      refine eS fun K6 hn6 hr6 he6 => ?_
      refine eS fun K7 hn7 hr7 he7 => ?_
      refine eO fun K8 hk8 => ?_
      refine tC0 2 ?_
      refine tZ0 ?_
      refine hk8 _ ?_
      refine hn7 (some ([3, 4, 5, 6, 7, 14], none)) _ ?_
      refine eCt ?_
      refine eS fun K9 hn9 hr9 he9 => ?_
      refine eS fun K10 hn10 hr10 he10 => ?_
      refine eO fun K11 hk11 => ?_
      refine tC0 2 ?_
      refine tZ0 ?_
      refine hk11 _ ?_
      refine hn10 (some ([3, 6, 7, 17], none)) _ ?_
      refine eCt ?_
      refine eS fun K12 hn12 hr12 he12 => ?_
      refine eP ([]) [6, 7] [0, 1, 2, 3, 4] [5, 6] (by kernel_rfl) (fun K13 hk13 => ?_)
      refine sp0 ?_
      have F1 := @shPP
      refine evP_take 3 fun K14 hk14 => ?_
      refine sh1 F1 ?_
      refine sd ?_
      refine hk14 _ ?_
      refine evP_take 1 fun K15 hk15 => ?_
      refine sh1 F1 ?_
      refine ⟨_, kv 0, ?_⟩
      refine hk15 _ ?_
      refine sh1 F1 ?_
      refine hk13 _ (by rfl) (fun K16 hk16 => ?_)
      refine sp0 ?_
      refine toKL ?_
      refine tC 1 F1 ?_
      refine tZ F1 ?_
      refine hk16 _ ?_
      refine so0 ?_
      refine hn12 (some ([6, 7], none)) _ ?_
      refine hr9 _ ?_
      refine hr6 _ ?_
      exact sf1 F1
    · rw [if_neg h2]
      have d2 : (a == 0) = false := by simpa using h2
      unfold evFn sc_r13Next rv_r13Next
      have F1 := @d2
      refine eS fun K1 hn1 hr1 he1 => ?_
      refine eO fun K2 hk2 => ?_
      refine tL F1 ?_
      refine hk2 _ ?_
      refine hn1 (some ([3, 4, 5, 6, 7], none)) _ ?_
      refine eS fun K3 hn3 hr3 he3 => ?_
      refine eS fun K4 hn4 hr4 he4 => ?_
      refine eO fun K5 hk5 => ?_
      refine tZ F1 ?_
      refine hk5 _ ?_
      refine hn4 (some ([3, 4, 5, 6, 7, 9], none)) _ ?_
      refine eCf ?_
      refine hn3 (some ([3, 4, 5, 6, 7], none)) _ ?_
      refine eS fun K6 hn6 hr6 he6 => ?_
      refine eS fun K7 hn7 hr7 he7 => ?_
      refine eO fun K8 hk8 => ?_
      refine tC 2 F1 ?_
      refine tZ F1 ?_
      refine hk8 _ ?_
      refine hn7 (some ([3, 4, 5, 6, 7, 14], none)) _ ?_
      refine eCt ?_
      refine eS fun K9 hn9 hr9 he9 => ?_
      refine eS fun K10 hn10 hr10 he10 => ?_
      refine eO fun K11 hk11 => ?_
      refine tC 2 F1 ?_
      refine tZ F1 ?_
      refine hk11 _ ?_
      refine hn10 (some ([3, 6, 7, 17], none)) _ ?_
      refine eCf ?_
      refine hn9 (some ([6, 7], none)) _ ?_
      refine eS fun K12 hn12 hr12 he12 => ?_
      refine eO fun K13 hk13 => ?_
      refine tC 3 F1 ?_
      refine tZ F1 ?_
      refine hk13 _ ?_
      refine hn12 (some ([6, 7], none)) _ ?_
      refine hr6 _ ?_
      exact sf1 F1
  rw [if_neg h1]
  have d1 : (what == 1) = false := by simpa using h1
  by_cases h2 : a = 0
  · subst h2
    rw [if_pos rfl]
    unfold evFn sc_r13Next rv_r13Next
    have F1 := @d1
    refine eS fun K1 hn1 hr1 he1 => ?_
    refine eO fun K2 hk2 => ?_
    refine tL F1 ?_
    refine hk2 _ ?_
    refine hn1 (some ([3, 4, 5, 6, 7], none)) _ ?_
    refine eS fun K3 hn3 hr3 he3 => ?_
    refine eS fun K4 hn4 hr4 he4 => ?_
    refine eO fun K5 hk5 => ?_
    refine tZ F1 ?_
    refine hk5 _ ?_
    refine hn4 (some ([3, 4, 5, 6, 7, 9], none)) _ ?_
    refine eCf ?_
    refine hn3 (some ([3, 4, 5, 6, 7], none)) _ ?_
    refine eS fun K6 hn6 hr6 he6 => ?_
    refine eS fun K7 hn7 hr7 he7 => ?_
    refine eO fun K8 hk8 => ?_
    refine tC 2 F1 ?_
    refine tZ F1 ?_
    refine hk8 _ ?_
    refine hn7 (some ([3, 4, 5, 6, 7, 14], none)) _ ?_
    refine eCf ?_
    refine hn6 (some ([3, 4, 5, 6, 7], none)) _ ?_
    refine eS fun K9 hn9 hr9 he9 => ?_
    refine eS fun K10 hn10 hr10 he10 => ?_
    refine eO fun K11 hk11 => ?_
    refine tC 2 F1 ?_
    refine tZ F1 ?_
    refine hk11 _ ?_
    refine hn10 (some ([3, 4, 5, 6, 7, 27], none)) _ ?_
    refine eCt ?_
    refine eS fun K12 hn12 hr12 he12 => ?_
    refine eP ([]) [6, 7] [0, 1, 2, 3] [4, 5] (by kernel_rfl) (fun K13 hk13 => ?_)
    refine sp0 ?_
    have F2 := And.intro F1 @shPP
    refine evP_take 3 fun K14 hk14 => ?_
    refine sh1 F2 ?_
    refine sd ?_
    refine hk14 _ ?_
    refine sh1 F2 ?_
    refine hk13 _ (by rfl) (fun K15 hk15 => ?_)
    refine sp0 ?_
    refine toKL ?_
    refine tC 1 F2 ?_
    refine tZ F2 ?_
    refine hk15 _ ?_
    refine so0 ?_
    refine hn12 (some ([6, 7], none)) _ ?_
    refine hr9 _ ?_
    exact sf1 F2
  rw [if_neg h2]
  have d2 : (a == 0) = false := by simpa using h2
  by_cases h3 : what = 2
  · subst h3
    rw [if_pos rfl]
    by_cases h4 : a = 2
    · subst h4
      cases ok
      · rw [if_neg (fun h => nomatch h.2)]
        unfold evFn sc_r13Next rv_r13Next
        refine eS fun K1 hn1 hr1 he1 => ?_
        refine eO fun K2 hk2 => ?_
        refine tL0 ?_
        refine hk2 _ ?_
        refine hn1 (some ([3, 4, 5, 6, 7], none)) _ ?_
        refine eS fun K3 hn3 hr3 he3 => ?_
        refine eS fun K4 hn4 hr4 he4 => ?_
        refine eO fun K5 hk5 => ?_
        refine tZ0 ?_
        refine hk5 _ ?_
        refine hn4 (some ([3, 4, 5, 6, 7, 9], none)) _ ?_
        refine eCf ?_
        refine hn3 (some ([3, 4, 5, 6, 7], none)) _ ?_
        refine eS fun K6 hn6 hr6 he6 => ?_
        refine eS fun K7 hn7 hr7 he7 => ?_
        refine eO fun K8 hk8 => ?_
        refine tC0 2 ?_
        refine tZ0 ?_
        refine hk8 _ ?_
        refine hn7 (some ([3, 4, 5, 6, 7, 14], none)) _ ?_
        refine eCf ?_
        refine hn6 (some ([3, 4, 5, 6, 7], none)) _ ?_
        refine eS fun K9 hn9 hr9 he9 => ?_
        refine eS fun K10 hn10 hr10 he10 => ?_
        refine eO fun K11 hk11 => ?_
        refine tC0 2 ?_
        refine tZ0 ?_
        refine hk11 _ ?_
        refine hn10 (some ([3, 4, 5, 6, 7, 27], none)) _ ?_
        refine eCf ?_
        refine hn9 (some ([3, 4, 5, 6, 7], none)) _ ?_
        refine eS fun K12 hn12 hr12 he12 => ?_
        refine eS fun K13 hn13 hr13 he13 => ?_
        refine eO fun K14 hk14 => ?_
        refine tC0 2 ?_
        refine tZ0 ?_
        refine hk14 _ ?_
        refine hn13 (some ([3, 4, 5, 6, 7, 34], none)) _ ?_
        refine eCt ?_
        refine eS fun K15 hn15 hr15 he15 => ?_
        refine eS fun K16 hn16 hr16 he16 => ?_
        refine eO fun K17 hk17 => ?_
        refine tC0 2 ?_
        refine tC0 1 ?_
        refine tC0 3 ?_
        refine tL0 ?_
        refine hk17 _ ?_
        refine hn16 (some ([3, 4, 5, 6, 7, 41], none)) _ ?_
        refine eCf ?_
        refine hn15 (some ([3, 5, 6, 7], none)) _ ?_
        refine eS fun K18 hn18 hr18 he18 => ?_
        refine eP ([]) [6, 7] [0, 1, 2, 3, 4, 5, 6, 7, 8, 9, 10, 11, 12] [13, 14] (by kernel_rfl) (fun K19 hk19 => ?_)
        refine sp0 ?_
        have F1 := @shPP
        refine evP_take 2 fun K20 hk20 => ?_
        refine sh1 F1 ?_
        refine sd ?_
        refine hk20 _ ?_
        refine evP_take 3 fun K21 hk21 => ?_
        refine sh1 F1 ?_
        refine sd ?_
        refine hk21 _ ?_
        refine evP_take 2 fun K22 hk22 => ?_
        refine sh1 F1 ?_
        refine sd ?_
        refine hk22 _ ?_
        refine evP_take 3 fun K23 hk23 => ?_
        refine sh1 F1 ?_
        refine sd ?_
        refine hk23 _ ?_
        refine evP_take 1 fun K24 hk24 => ?_
        refine sh1 F1 ?_
        refine sd ?_
        refine hk24 _ ?_
        refine evP_take 1 fun K25 hk25 => ?_
        refine sh1 F1 ?_
        refine ⟨_, kv _, ?_⟩
        refine hk25 _ ?_
        refine sh1 F1 ?_
        refine hk19 _ (by rfl) (fun K26 hk26 => ?_)
        refine sp0 ?_
        refine toKL ?_
        refine tC 1 F1 ?_
        refine tZ F1 ?_
        refine hk26 _ ?_
        refine so0 ?_
        refine hn18 (some ([6, 7], none)) _ ?_
        refine hr12 _ ?_
        exact sf1 F1
      · rw [if_pos ⟨rfl, rfl⟩]
        unfold evFn sc_r13Next rv_r13Next
        refine eS fun K1 hn1 hr1 he1 => ?_
        refine eO fun K2 hk2 => ?_
        refine tL0 ?_
        refine hk2 _ ?_
        refine hn1 (some ([3, 4, 5, 6, 7], none)) _ ?_
        refine eS fun K3 hn3 hr3 he3 => ?_
        refine eS fun K4 hn4 hr4 he4 => ?_
        refine eO fun K5 hk5 => ?_
        refine tZ0 ?_
        refine hk5 _ ?_
        refine hn4 (some ([3, 4, 5, 6, 7, 9], none)) _ ?_
        refine eCf ?_
        refine hn3 (some ([3, 4, 5, 6, 7], none)) _ ?_
        refine eS fun K6 hn6 hr6 he6 => ?_
        refine eS fun K7 hn7 hr7 he7 => ?_
        refine eO fun K8 hk8 => ?_
        refine tC0 2 ?_
        refine tZ0 ?_
        refine hk8 _ ?_
        refine hn7 (some ([3, 4, 5, 6, 7, 14], none)) _ ?_
        refine eCf ?_
        refine hn6 (some ([3, 4, 5, 6, 7], none)) _ ?_
        refine eS fun K9 hn9 hr9 he9 => ?_
        refine eS fun K10 hn10 hr10 he10 => ?_
        refine eO fun K11 hk11 => ?_
        refine tC0 2 ?_
        refine tZ0 ?_
        refine hk11 _ ?_
        refine hn10 (some ([3, 4, 5, 6, 7, 27], none)) _ ?_
        refine eCf ?_
        refine hn9 (some ([3, 4, 5, 6, 7], none)) _ ?_
        refine eS fun K12 hn12 hr12 he12 => ?_
        refine eS fun K13 hn13 hr13 he13 => ?_
        refine eO fun K14 hk14 => ?_
        refine tC0 2 ?_
        refine tZ0 ?_
        refine hk14 _ ?_
        refine hn13 (some ([3, 4, 5, 6, 7, 34], none)) _ ?_
        refine eCt ?_
        refine eS fun K15 hn15 hr15 he15 => ?_
        refine eS fun K16 hn16 hr16 he16 => ?_
        refine eO fun K17 hk17 => ?_
        refine tC0 2 ?_
        refine tC0 1 ?_
        refine tC0 3 ?_
        refine tL0 ?_
        refine hk17 _ ?_
        refine hn16 (some ([3, 4, 5, 6, 7, 41], none)) _ ?_
        refine eCt ?_
        refine eS fun K18 hn18 hr18 he18 => ?_
        refine eO fun K19 hk19 => ?_
        refine tC0 3 ?_
        refine tC0 1 ?_
        refine tC0 3 ?_
        refine tZ0 ?_
        refine hk19 _ ?_
        refine hn18 (some ([6, 7], none)) _ ?_
        refine hr15 _ ?_
        refine hr12 _ ?_
        exact sf0
    · rw [if_neg (fun h => h4 h.1)]
      have d4 : (a == 2) = false := by simpa using h4
      unfold evFn sc_r13Next rv_r13Next
      have F1 := And.intro @d2 @d4
      refine eS fun K1 hn1 hr1 he1 => ?_
      refine eO fun K2 hk2 => ?_
      refine tL F1 ?_
      refine hk2 _ ?_
      refine hn1 (some ([3, 4, 5, 6, 7], none)) _ ?_
      refine eS fun K3 hn3 hr3 he3 => ?_
      refine eS fun K4 hn4 hr4 he4 => ?_
      refine eO fun K5 hk5 => ?_
      refine tZ F1 ?_
      refine hk5 _ ?_
      refine hn4 (some ([3, 4, 5, 6, 7, 9], none)) _ ?_
      refine eCf ?_
      refine hn3 (some ([3, 4, 5, 6, 7], none)) _ ?_
      refine eS fun K6 hn6 hr6 he6 => ?_
      refine eS fun K7 hn7 hr7 he7 => ?_
      refine eO fun K8 hk8 => ?_
      refine tC 2 F1 ?_
      refine tZ F1 ?_
      refine hk8 _ ?_
      refine hn7 (some ([3, 4, 5, 6, 7, 14], none)) _ ?_
      refine eCf ?_
      refine hn6 (some ([3, 4, 5, 6, 7], none)) _ ?_
      refine eS fun K9 hn9 hr9 he9 => ?_
      refine eS fun K10 hn10 hr10 he10 => ?_
      refine eO fun K11 hk11 => ?_
      refine tC 2 F1 ?_
      refine tZ F1 ?_
      refine hk11 _ ?_
      refine hn10 (some ([3, 4, 5, 6, 7, 27], none)) _ ?_
      refine eCf ?_
      refine hn9 (some ([3, 4, 5, 6, 7], none)) _ ?_
      refine eS fun K12 hn12 hr12 he12 => ?_
      refine eS fun K13 hn13 hr13 he13 => ?_
      refine eO fun K14 hk14 => ?_
      refine tC 2 F1 ?_
      refine tZ F1 ?_
      refine hk14 _ ?_
      refine hn13 (some ([3, 4, 5, 6, 7, 34], none)) _ ?_
      refine eCt ?_
      refine eS fun K15 hn15 hr15 he15 => ?_
      refine eS fun K16 hn16 hr16 he16 => ?_
      refine eO fun K17 hk17 => ?_
      refine tC 2 F1 ?_
      refine tC 1 F1 ?_
      refine tC 3 F1 ?_
      refine tL F1 ?_
      refine hk17 _ ?_
      refine hn16 (some ([3, 4, 5, 6, 7, 41], none)) _ ?_
      refine eCf ?_
      refine hn15 (some ([3, 5, 6, 7], none)) _ ?_
      refine eS fun K18 hn18 hr18 he18 => ?_
      refine eP ([]) [6, 7] [0, 1, 2, 3, 4, 5, 6, 7, 8, 9, 10, 11, 12] [13, 14] (by kernel_rfl) (fun K19 hk19 => ?_)
      refine sp0 ?_
      have F2 := And.intro F1 @shPP
      refine evP_take 2 fun K20 hk20 => ?_
      refine sh1 F2 ?_
      refine sd ?_
      refine hk20 _ ?_
      refine evP_take 3 fun K21 hk21 => ?_
      refine sh1 F2 ?_
      refine sd ?_
      refine hk21 _ ?_
      refine evP_take 2 fun K22 hk22 => ?_
      refine sh1 F2 ?_
      refine sd ?_
      refine hk22 _ ?_
      refine evP_take 3 fun K23 hk23 => ?_
      refine sh1 F2 ?_
      refine sd ?_
      refine hk23 _ ?_
      refine evP_take 1 fun K24 hk24 => ?_
      refine sh1 F2 ?_
      refine sd ?_
      refine hk24 _ ?_
      refine evP_take 1 fun K25 hk25 => ?_
      refine sh1 F2 ?_
      refine ⟨_, kv _, ?_⟩
      refine hk25 _ ?_
      refine sh1 F2 ?_
      refine hk19 _ (by rfl) (fun K26 hk26 => ?_)
      refine sp0 ?_
      refine toKL ?_
      refine tC 1 F2 ?_
      refine tZ F2 ?_
      refine hk26 _ ?_
      refine so0 ?_
      refine hn18 (some ([6, 7], none)) _ ?_
      refine hr12 _ ?_
      exact sf1 F2
  rw [if_neg h3]
  have d3 : (what == 2) = false := by simpa using h3
  by_cases h4 : a = 2
  · subst h4
    rw [if_pos rfl]
    unfold evFn sc_r13Next rv_r13Next
    have F1 := And.intro @d1 @d3
    refine eS fun K1 hn1 hr1 he1 => ?_
    refine eO fun K2 hk2 => ?_
    refine tL F1 ?_
    refine hk2 _ ?_
    refine hn1 (some ([3, 4, 5, 6, 7], none)) _ ?_
    refine eS fun K3 hn3 hr3 he3 => ?_
    refine eS fun K4 hn4 hr4 he4 => ?_
    refine eO fun K5 hk5 => ?_
    refine tZ F1 ?_
    refine hk5 _ ?_
    refine hn4 (some ([3, 4, 5, 6, 7, 9], none)) _ ?_
    refine eCf ?_
    refine hn3 (some ([3, 4, 5, 6, 7], none)) _ ?_
    refine eS fun K6 hn6 hr6 he6 => ?_
    refine eS fun K7 hn7 hr7 he7 => ?_
    refine eO fun K8 hk8 => ?_
    refine tC 2 F1 ?_
    refine tZ F1 ?_
    refine hk8 _ ?_
    refine hn7 (some ([3, 4, 5, 6, 7, 14], none)) _ ?_
    refine eCf ?_
    refine hn6 (some ([3, 4, 5, 6, 7], none)) _ ?_
    refine eS fun K9 hn9 hr9 he9 => ?_
    refine eS fun K10 hn10 hr10 he10 => ?_
    refine eO fun K11 hk11 => ?_
    refine tC 2 F1 ?_
    refine tZ F1 ?_
    refine hk11 _ ?_
    refine hn10 (some ([3, 4, 5, 6, 7, 27], none)) _ ?_
    refine eCf ?_
    refine hn9 (some ([3, 4, 5, 6, 7], none)) _ ?_
    refine eS fun K12 hn12 hr12 he12 => ?_
    refine eS fun K13 hn13 hr13 he13 => ?_
    refine eO fun K14 hk14 => ?_
    refine tC 2 F1 ?_
    refine tZ F1 ?_
    refine hk14 _ ?_
    refine hn13 (some ([3, 4, 5, 6, 7, 34], none)) _ ?_
    refine eCf ?_
    refine hn12 (some ([3, 4, 5, 6, 7], none)) _ ?_
    refine eS fun K15 hn15 hr15 he15 => ?_
    refine eS fun K16 hn16 hr16 he16 => ?_
    refine eO fun K17 hk17 => ?_
    refine tC 2 F1 ?_
    refine tZ F1 ?_
    refine hk17 _ ?_
    refine hn16 (some ([3, 4, 5, 6, 7, 63], none)) _ ?_
    refine eCt ?_
    refine eS fun K18 hn18 hr18 he18 => ?_
    refine eP ([]) [6, 7] [0, 1, 2, 3, 4, 5] [6, 7] (by kernel_rfl) (fun K19 hk19 => ?_)
    refine sp0 ?_
    have F2 := And.intro F1 @shPP
    refine evP_take 2 fun K20 hk20 => ?_
    refine sh1 F2 ?_
    refine sd ?_
    refine hk20 _ ?_
    refine evP_take 3 fun K21 hk21 => ?_
    refine sh1 F2 ?_
    refine sd ?_
    refine hk21 _ ?_
    refine sh1 F2 ?_
    refine hk19 _ (by rfl) (fun K22 hk22 => ?_)
    refine sp0 ?_
    refine toKL ?_
    refine tC 1 F2 ?_
    refine tZ F2 ?_
    refine hk22 _ ?_
    refine so0 ?_
    refine hn18 (some ([6, 7], none)) _ ?_
    refine hr15 _ ?_
    exact sf1 F2
  rw [if_neg h4]
  have d4 : (a == 2) = false := by simpa using h4
  by_cases h5 : a = 3
  · subst h5
    by_cases h6 : gv = lv
    · subst h6
      rw [if_pos ⟨rfl, rfl⟩]
      unfold evFn sc_r13Next rv_r13Next
      have F1 := And.intro @d1 @d3
      refine eS fun K1 hn1 hr1 he1 => ?_
      refine eO fun K2 hk2 => ?_
      refine tL F1 ?_
      refine hk2 _ ?_
      refine hn1 (some ([3, 4, 5, 6, 7], none)) _ ?_
      refine eS fun K3 hn3 hr3 he3 => ?_
      refine eS fun K4 hn4 hr4 he4 => ?_
      refine eO fun K5 hk5 => ?_
      refine tZ F1 ?_
      refine hk5 _ ?_
      refine hn4 (some ([3, 4, 5, 6, 7, 9], none)) _ ?_
      refine eCf ?_
      refine hn3 (some ([3, 4, 5, 6, 7], none)) _ ?_
      refine eS fun K6 hn6 hr6 he6 => ?_
      refine eS fun K7 hn7 hr7 he7 => ?_
      refine eO fun K8 hk8 => ?_
      refine tC 2 F1 ?_
      refine tZ F1 ?_
      refine hk8 _ ?_
      refine hn7 (some ([3, 4, 5, 6, 7, 14], none)) _ ?_
      refine eCf ?_
      refine hn6 (some ([3, 4, 5, 6, 7], none)) _ ?_
      refine eS fun K9 hn9 hr9 he9 => ?_
      refine eS fun K10 hn10 hr10 he10 => ?_
      refine eO fun K11 hk11 => ?_
      refine tC 2 F1 ?_
      refine tZ F1 ?_
      refine hk11 _ ?_
      refine hn10 (some ([3, 4, 5, 6, 7, 27], none)) _ ?_
      refine eCf ?_
      refine hn9 (some ([3, 4, 5, 6, 7], none)) _ ?_
      refine eS fun K12 hn12 hr12 he12 => ?_
      refine eS fun K13 hn13 hr13 he13 => ?_
      refine eO fun K14 hk14 => ?_
      refine tC 2 F1 ?_
      refine tZ F1 ?_
      refine hk14 _ ?_
      refine hn13 (some ([3, 4, 5, 6, 7, 34], none)) _ ?_
      refine eCf ?_
      refine hn12 (some ([3, 4, 5, 6, 7], none)) _ ?_
      refine eS fun K15 hn15 hr15 he15 => ?_
      refine eS fun K16 hn16 hr16 he16 => ?_
      refine eO fun K17 hk17 => ?_
      refine tC 2 F1 ?_
      refine tZ F1 ?_
      refine hk17 _ ?_
      refine hn16 (some ([3, 4, 5, 6, 7, 63], none)) _ ?_
      refine eCf ?_
      refine hn15 (some ([3, 4, 5, 6, 7], none)) _ ?_
      refine eS fun K18 hn18 hr18 he18 => ?_
      refine eS fun K19 hn19 hr19 he19 => ?_
      refine eO fun K20 hk20 => ?_
      refine tC 2 F1 ?_
      refine tC 1 F1 ?_
      refine tC 4 F1 ?_
      refine tC 3 F1 ?_
      refine tC 1 F1 ?_
      refine tL F1 ?_
      refine hk20 _ ?_
      refine hn19 (some ([3, 4, 5, 6, 7, 81], none)) _ ?_
      refine eCt ?_
      refine eS fun K21 hn21 hr21 he21 => ?_
      refine eO fun K22 hk22 => ?_
      refine tC 3 F1 ?_
      refine tC 3 F1 ?_
      refine tZ F1 ?_
      refine hk22 _ ?_
      refine hn21 (some ([6, 7], none)) _ ?_
      refine hr18 _ ?_
      exact sf1 F1
    · rw [if_neg (fun h => h6 h.2)]
      have d6 : (gv == lv) = false := by simpa using h6
      unfold evFn sc_r13Next rv_r13Next
      have F1 := And.intro @d1 (And.intro @d3 @d6)
      refine eS fun K1 hn1 hr1 he1 => ?_
      refine eO fun K2 hk2 => ?_
      refine tL F1 ?_
      refine hk2 _ ?_
      refine hn1 (some ([3, 4, 5, 6, 7], none)) _ ?_
      refine eS fun K3 hn3 hr3 he3 => ?_
      refine eS fun K4 hn4 hr4 he4 => ?_
      refine eO fun K5 hk5 => ?_
      refine tZ F1 ?_
      refine hk5 _ ?_
      refine hn4 (some ([3, 4, 5, 6, 7, 9], none)) _ ?_
      refine eCf ?_
      refine hn3 (some ([3, 4, 5, 6, 7], none)) _ ?_
      refine eS fun K6 hn6 hr6 he6 => ?_
      refine eS fun K7 hn7 hr7 he7 => ?_
      refine eO fun K8 hk8 => ?_
      refine tC 2 F1 ?_
      refine tZ F1 ?_
      refine hk8 _ ?_
      refine hn7 (some ([3, 4, 5, 6, 7, 14], none)) _ ?_
      refine eCf ?_
      refine hn6 (some ([3, 4, 5, 6, 7], none)) _ ?_
      refine eS fun K9 hn9 hr9 he9 => ?_
      refine eS fun K10 hn10 hr10 he10 => ?_
      refine eO fun K11 hk11 => ?_
      refine tC 2 F1 ?_
      refine tZ F1 ?_
      refine hk11 _ ?_
      refine hn10 (some ([3, 4, 5, 6, 7, 27], none)) _ ?_
      refine eCf ?_
      refine hn9 (some ([3, 4, 5, 6, 7], none)) _ ?_
      refine eS fun K12 hn12 hr12 he12 => ?_
      refine eS fun K13 hn13 hr13 he13 => ?_
      refine eO fun K14 hk14 => ?_
      refine tC 2 F1 ?_
      refine tZ F1 ?_
      refine hk14 _ ?_
      refine hn13 (some ([3, 4, 5, 6, 7, 34], none)) _ ?_
      refine eCf ?_
      refine hn12 (some ([3, 4, 5, 6, 7], none)) _ ?_
      refine eS fun K15 hn15 hr15 he15 => ?_
      refine eS fun K16 hn16 hr16 he16 => ?_
      refine eO fun K17 hk17 => ?_
      refine tC 2 F1 ?_
      refine tZ F1 ?_
      refine hk17 _ ?_
      refine hn16 (some ([3, 4, 5, 6, 7, 63], none)) _ ?_
      refine eCf ?_
      refine hn15 (some ([3, 4, 5, 6, 7], none)) _ ?_
      refine eS fun K18 hn18 hr18 he18 => ?_
      refine eS fun K19 hn19 hr19 he19 => ?_
      refine eO fun K20 hk20 => ?_
      refine tC 2 F1 ?_
      refine tC 1 F1 ?_
      refine tC 4 F1 ?_
      refine tC 3 F1 ?_
      refine tC 1 F1 ?_
      refine tL F1 ?_
      refine hk20 _ ?_
      refine hn19 (some ([3, 4, 5, 6, 7, 81], none)) _ ?_
      refine eCf ?_
      refine hn18 (some ([3, 5, 6, 7], none)) _ ?_
      refine eS fun K21 hn21 hr21 he21 => ?_
      refine eP ([]) [6, 7] [0, 1, 2, 3, 4, 5, 6, 7, 8, 9] [10, 11] (by kernel_rfl) (fun K22 hk22 => ?_)
      refine sp0 ?_
      have F2 := And.intro F1 @shPP
      refine evP_take 2 fun K23 hk23 => ?_
      refine sh1 F2 ?_
      refine sd ?_
      refine hk23 _ ?_
      refine evP_take 3 fun K24 hk24 => ?_
      refine sh1 F2 ?_
      refine sd ?_
      refine hk24 _ ?_
      refine evP_take 3 fun K25 hk25 => ?_
      refine sh1 F2 ?_
      refine sd ?_
      refine hk25 _ ?_
      refine evP_take 1 fun K26 hk26 => ?_
      refine sh1 F2 ?_
      refine ⟨_, kv _, ?_⟩
      refine hk26 _ ?_
      refine sh1 F2 ?_
      refine hk22 _ (by rfl) (fun K27 hk27 => ?_)
      refine sp0 ?_
      refine toKL ?_
      refine tC 1 F2 ?_
      refine tZ F2 ?_
      refine hk27 _ ?_
      refine so0 ?_
      refine hn21 (some ([6, 7], none)) _ ?_
      exact sf1 F2
  · rw [if_neg (fun h => h5 h.1)]
    have d5 : (a == 3) = false := by simpa using h5
    unfold evFn sc_r13Next rv_r13Next
    have F1 := And.intro @d1 (And.intro @d2 (And.intro @d3 (And.intro @d4 @d5)))
    refine eS fun K1 hn1 hr1 he1 => ?_
    refine eO fun K2 hk2 => ?_
    refine tL F1 ?_
    refine hk2 _ ?_
    refine hn1 (some ([3, 4, 5, 6, 7], none)) _ ?_
    refine eS fun K3 hn3 hr3 he3 => ?_
    refine eS fun K4 hn4 hr4 he4 => ?_
    refine eO fun K5 hk5 => ?_
    refine tZ F1 ?_
    refine hk5 _ ?_
    refine hn4 (some ([3, 4, 5, 6, 7, 9], none)) _ ?_
    refine eCf ?_
    refine hn3 (some ([3, 4, 5, 6, 7], none)) _ ?_
    refine eS fun K6 hn6 hr6 he6 => ?_
    refine eS fun K7 hn7 hr7 he7 => ?_
    refine eO fun K8 hk8 => ?_
    refine tC 2 F1 ?_
    refine tZ F1 ?_
    refine hk8 _ ?_
    refine hn7 (some ([3, 4, 5, 6, 7, 14], none)) _ ?_
    refine eCf ?_
    refine hn6 (some ([3, 4, 5, 6, 7], none)) _ ?_
    refine eS fun K9 hn9 hr9 he9 => ?_
    refine eS fun K10 hn10 hr10 he10 => ?_
    refine eO fun K11 hk11 => ?_
    refine tC 2 F1 ?_
    refine tZ F1 ?_
    refine hk11 _ ?_
    refine hn10 (some ([3, 4, 5, 6, 7, 27], none)) _ ?_
    refine eCf ?_
    refine hn9 (some ([3, 4, 5, 6, 7], none)) _ ?_
    refine eS fun K12 hn12 hr12 he12 => ?_
    refine eS fun K13 hn13 hr13 he13 => ?_
    refine eO fun K14 hk14 => ?_
    refine tC 2 F1 ?_
    refine tZ F1 ?_
    refine hk14 _ ?_
    refine hn13 (some ([3, 4, 5, 6, 7, 34], none)) _ ?_
    refine eCf ?_
    refine hn12 (some ([3, 4, 5, 6, 7], none)) _ ?_
    refine eS fun K15 hn15 hr15 he15 => ?_
    refine eS fun K16 hn16 hr16 he16 => ?_
    refine eO fun K17 hk17 => ?_
    refine tC 2 F1 ?_
    refine tZ F1 ?_
    refine hk17 _ ?_
    refine hn16 (some ([3, 4, 5, 6, 7, 63], none)) _ ?_
    refine eCf ?_
    refine hn15 (some ([3, 4, 5, 6, 7], none)) _ ?_
    refine eS fun K18 hn18 hr18 he18 => ?_
    refine eS fun K19 hn19 hr19 he19 => ?_
    refine eO fun K20 hk20 => ?_
    refine tC 2 F1 ?_
    refine tC 1 F1 ?_
    refine tC 4 F1 ?_
    refine tC 3 F1 ?_
    refine tC 1 F1 ?_
    refine tL F1 ?_
    refine hk20 _ ?_
    refine hn19 (some ([3, 4, 5, 6, 7, 81], none)) _ ?_
    refine eCf ?_
    refine hn18 (some ([3, 5, 6, 7], none)) _ ?_
    refine eS fun K21 hn21 hr21 he21 => ?_
    refine eP ([]) [6, 7] [0, 1, 2, 3, 4, 5, 6, 7, 8, 9] [10, 11] (by kernel_rfl) (fun K22 hk22 => ?_)
    refine sp0 ?_
    have F2 := And.intro F1 @shPP
    refine evP_take 2 fun K23 hk23 => ?_
    refine sh1 F2 ?_
    refine sd ?_
    refine hk23 _ ?_
    refine evP_take 3 fun K24 hk24 => ?_
    refine sh1 F2 ?_
    refine sd ?_
    refine hk24 _ ?_
    refine evP_take 3 fun K25 hk25 => ?_
    refine sh1 F2 ?_
    refine sd ?_
    refine hk25 _ ?_
    refine evP_take 1 fun K26 hk26 => ?_
    refine sh1 F2 ?_
    refine ⟨_, kv _, ?_⟩
    refine hk26 _ ?_
    refine sh1 F2 ?_
    refine hk22 _ (by rfl) (fun K27 hk27 => ?_)
    refine sp0 ?_
    refine toKL ?_
    refine tC 1 F2 ?_
    refine tZ F2 ?_
    refine hk27 _ ?_
    refine so0 ?_
    refine hn21 (some ([6, 7], none)) _ ?_
    exact sf1 F2
end Go.Proofs.YtkbgdhomdbolnaaGreatDoor
