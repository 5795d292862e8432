/-
  Layer 6 by shadows: the example.
-/
import Derived.Test.YtkoibcblmgmdmaaK6c
import Derived.Test.YtkoibcblmgmdmaaMC
namespace Go.Proofs.Ytkoibcblmgmdmaa
set_option linter.unusedSimpArgs false
set_option linter.unusedVariables false
open Go.RowKit Go.Maps

def v6 (n : Int) : WordV := ⟨n, 0, 0⟩
def a6 (op : Int) (w : WordV) : ActM := ⟨op, 0, zWord, w⟩
noncomputable def z0 : MachM := (cnewM 1 [v6 1, v6 2]).1
noncomputable def z1 : MachM := (doM z0 1 (a6 3 (v6 5)) 0).1
noncomputable def z2 : MachM := (doM z1 1 (a6 7 zWord) 0).1
noncomputable def z3 : MachM := (doM z2 1 (a6 8 zWord) 0).1
theorem zok0 : MachOk z0 1 := machOk_new _ _
theorem zok1 : MachOk z1 2 := machOk_do zok0 _ _ _
theorem zok2 : MachOk z2 3 := machOk_do zok1 _ _ _
theorem zok3 : MachOk z3 4 := machOk_do zok2 _ _ _
theorem ze0 : (cnewM 1 [v6 1, v6 2]).2 = 0 := rfl
theorem ze1 : (doM z0 1 (a6 3 (v6 5)) 0).2 = (⟨zWord, true⟩, 0) := rfl
theorem ze2 : (doM z1 1 (a6 1 zWord) 1).2 = (⟨v6 5, true⟩, 0) := rfl
theorem ze3 : wordsM (crashM z1 (-1)) = [v6 1, v6 2] := rfl
theorem ze4 : (doM z1 1 (a6 7 zWord) 0).2 = (⟨zWord, true⟩, 0) := rfl
theorem ze5 : (doM z2 1 (a6 8 zWord) 0).2 = (⟨zWord, true⟩, 0) := rfl
theorem ze6 : wordsM (crashM z3 (-1)) = [v6 5, v6 2] := rfl
set_option maxHeartbeats 4000000 in
theorem ok_l6awake : Ok 8 [] (sB true) := by
  refine ok_of_tr Try.func8 tr_l6awake rfl ?_
  have c0 := ok_cNew 1 0 [v6 1, v6 2]
  have c1 := ok_cDo z0 1 (a6 3 (v6 5)) 0 zok0 (by decide)
  have c2 := ok_cDo z1 1 (a6 1 zWord) 1 zok1 (by decide)
  have c3 := ok_cCrash z1 (-1) zok1 (by decide)
  have c4 := ok_cWords (crashM z1 (-1)) (machOk_crash zok1 (-1)).mem (by decide)
  have c5 := ok_cDo z1 1 (a6 7 zWord) 0 zok1 (by decide)
  have c6 := ok_cDo z2 1 (a6 8 zWord) 0 zok2 (by decide)
  have c7 := ok_cCrash z3 (-1) zok3 (by decide)
  have c8 := ok_cWords (crashM z3 (-1)) (machOk_crash zok3 (-1)).mem (by decide)
  rw [ze0] at c0
  rw [ze1] at c1
  rw [ze2] at c2
  rw [ze3] at c4
  rw [ze4] at c5
  rw [ze5] at c6
  rw [ze6] at c8
  change Ok _ _ (.tup [eMach z0, sI 0]) at c0
  change Ok _ _ (.tup [eMach z1, .agg (eGot ⟨zWord, true⟩), sI 0]) at c1
  change Ok _ _ (.tup [eMach z2, .agg (eGot ⟨zWord, true⟩), sI 0]) at c5
  change Ok _ _ (.tup [eMach z3, .agg (eGot ⟨zWord, true⟩), sI 0]) at c6
  generalize (doM z1 1 (a6 1 zWord) 1).1 = y2 at c2
  generalize crashM z1 (-1) = y3 at c3 c4
  generalize crashM z3 (-1) = y7 at c7 c8
  generalize z0 = x0 at c0 c1
  generalize z1 = x1 at c1 c2 c3 c5
  generalize z2 = x2 at c5 c6
  generalize z3 = x3 at c6 c7
  simp only [v6, zWord, a6, List.map_cons, List.map_nil] at c0 c1 c2 c3 c4 c5 c6 c7 c8
  have h22 : ((2 : Nat) : Int) = 2 := rfl
  unfold evFn sc_l6awake rv_l6awake
  have F1 := @h22
  refine eS fun K1 hn1 hr1 he1 => ?_
  refine eO fun K2 hk2 => ?_
  refine tL F1 ?_
  refine hk2 _ ?_
  refine hn1 (some ([], none)) _ ?_
  refine eS fun K3 hn3 hr3 he3 => ?_
  refine eO fun K4 hk4 => ?_
  refine tC 3 F1 ?_
  refine tS 1 F1 ?_
  refine Or.inl (Or.inl ⟨_, c0, ?_⟩)
  refine tC 5 F1 ?_
  refine tL F1 ?_
  refine hk4 _ ?_
  refine hn3 (some ([1, 2], none)) _ ?_
  refine eS fun K5 hn5 hr5 he5 => ?_
  refine eO fun K6 hk6 => ?_
  refine tC 1 F1 ?_
  refine tS 2 F1 ?_
  refine tS 1 F1 ?_
  refine Or.inl (Or.inl ⟨_, c1, ?_⟩)
  refine tC 6 F1 ?_
  refine tC 1 F1 ?_
  refine tL F1 ?_
  refine hk6 _ ?_
  refine hn5 (some ([1, 2, 4], none)) _ ?_
  refine eS fun K7 hn7 hr7 he7 => ?_
  refine eO fun K8 hk8 => ?_
  refine tC 1 F1 ?_
  refine tS 1 F1 ?_
  refine tS 1 F1 ?_
  refine Or.inl (Or.inl ⟨_, c2, ?_⟩)
  refine tC 7 F1 ?_
  refine tC 1 F1 ?_
  refine tL F1 ?_
  refine hk8 _ ?_
  refine hn7 (some ([1, 2, 4, 6, 7], none)) _ ?_
  refine eS fun K9 hn9 hr9 he9 => ?_
  refine eO fun K10 hk10 => ?_
  refine tC 1 F1 ?_
  refine tS 1 F1 ?_
  refine Or.inl (Or.inl ⟨_, c3, ?_⟩)
  refine tS 1 F1 ?_
  refine Or.inl (Or.inl ⟨_, c4, ?_⟩)
  refine tL F1 ?_
  refine hk10 _ ?_
  refine hn9 (some ([1, 2, 4, 6, 7, 8], none)) _ ?_
  refine eS fun K11 hn11 hr11 he11 => ?_
  refine eO fun K12 hk12 => ?_
  refine tC 1 F1 ?_
  refine tS 1 F1 ?_
  refine tS 1 F1 ?_
  refine Or.inl (Or.inl ⟨_, c5, ?_⟩)
  refine tZ F1 ?_
  refine hk12 _ ?_
  refine hn11 (some ([1, 2, 4, 6, 7, 8], none)) _ ?_
  refine eS fun K13 hn13 hr13 he13 => ?_
  refine eO fun K14 hk14 => ?_
  refine tC 1 F1 ?_
  refine tS 1 F1 ?_
  refine tS 1 F1 ?_
  refine Or.inl (Or.inl ⟨_, c6, ?_⟩)
  refine tZ F1 ?_
  refine hk14 _ ?_
  refine hn13 (some ([1, 2, 4, 6, 7, 8], none)) _ ?_
  refine eS fun K15 hn15 hr15 he15 => ?_
  refine eO fun K16 hk16 => ?_
  refine tC 1 F1 ?_
  refine tS 1 F1 ?_
  refine Or.inl (Or.inl ⟨_, c7, ?_⟩)
  refine tS 1 F1 ?_
  refine Or.inl (Or.inl ⟨_, c8, ?_⟩)
  refine tL F1 ?_
  refine hk16 _ ?_
  refine hn15 (some ([2, 4, 6, 7, 8, 9], none)) _ ?_
  refine eS fun K17 hn17 hr17 he17 => ?_
  refine eO fun K18 hk18 => ?_
  refine tC 2 F1 ?_
  refine tC 3 F1 ?_
  refine tC 4 F1 ?_
  refine tC 5 F1 ?_
  refine tC 1 F1 ?_
  refine tC 5 F1 ?_
  refine tC 4 F1 ?_
  refine tC 2 F1 ?_
  refine tC 1 F1 ?_
  refine tC 5 F1 ?_
  refine tC 4 F1 ?_
  refine tC 2 F1 ?_
  refine tC 1 F1 ?_
  refine tC 4 F1 ?_
  refine tC 2 F1 ?_
  refine tC 1 F1 ?_
  refine tL F1 ?_
  refine hk18 _ ?_
  refine hn17 (some ([0], none)) _ ?_
  exact sf1 F1
end Go.Proofs.Ytkoibcblmgmdmaa
