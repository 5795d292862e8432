/-
  Layer 6 by shadows: the example.
-/
import Derived.Test.YtfcjkchpldfamaaK6c
import Derived.Test.YtfcjkchpldfamaaMC
namespace Go.Proofs.Ytfcjkchpldfamaa
set_option linter.unusedSimpArgs false
set_option linter.unusedVariables false
open Go.RowKit Go.Maps

def v6 (n : Int) : WordV := ⟨n, 0, 0⟩
def a6 (op : Int) (w : WordV) : ActM := ⟨op, 0, zWord, w⟩
noncomputable def z0 : MachM := (cnewM 1 [v6 1, v6 2]).1
noncomputable def z1 : MachM := (doM z0 1 (a6 3 (v6 5)) 0).1
noncomputable def z2 : MachM := (doM z1 1 (a6 7 zWord) 0).1
noncomputable def z3 : MachM := (doM z2 1 (a6 8 zWord) 0).1
theorem zok0 : MachOk z0 1 := machOk_new _ _
theorem zok1 : MachOk z1 2 := machOk_do zok0 _ _ _
theorem zok2 : MachOk z2 3 := machOk_do zok1 _ _ _
theorem zok3 : MachOk z3 4 := machOk_do zok2 _ _ _
theorem ze0 : (cnewM 1 [v6 1, v6 2]).2 = 0 := rfl
theorem ze1 : (doM z0 1 (a6 3 (v6 5)) 0).2 = (⟨zWord, true⟩, 0) := rfl
theorem ze2 : (doM z1 1 (a6 1 zWord) 1).2 = (⟨v6 5, true⟩, 0) := rfl
theorem ze3 : wordsM (crashM z1 (-1)) = [v6 1, v6 2] := rfl
theorem ze4 : (doM z1 1 (a6 7 zWord) 0).2 = (⟨zWord, true⟩, 0) := rfl
theorem ze5 : (doM z2 1 (a6 8 zWord) 0).2 = (⟨zWord, true⟩, 0) := rfl
theorem ze6 : wordsM (crashM z3 (-1)) = [v6 5, v6 2] := rfl
set_option maxHeartbeats 4000000 in
theorem ok_l6awake : Ok 37 [] (sB true) := by
  refine ok_of_tr Try.func37 tr_l6awake rfl ?_
  have c0 := ok_cNew 1 0 [v6 1, v6 2]
  have c1 := ok_cDo z0 1 (a6 3 (v6 5)) 0 zok0 (by decide)
  have c2 := ok_cDo z1 1 (a6 1 zWord) 1 zok1 (by decide)
  have c3 := ok_cCrash z1 (-1) zok1 (by decide)
  have c4 := ok_cWords (crashM z1 (-1)) (machOk_crash zok1 (-1)).mem (by decide)
  have c5 := ok_cDo z1 1 (a6 7 zWord) 0 zok1 (by decide)
  have c6 := ok_cDo z2 1 (a6 8 zWord) 0 zok2 (by decide)
  have c7 := ok_cCrash z3 (-1) zok3 (by decide)
  have c8 := ok_cWords (crashM z3 (-1)) (machOk_crash zok3 (-1)).mem (by decide)
  rw [ze0] at c0
  rw [ze1] at c1
  rw [ze2] at c2
  rw [ze3] at c4
  rw [ze4] at c5
  rw [ze5] at c6
  rw [ze6] at c8
  change Ok _ _ (.tup [eMach z0, sI 0]) at c0
  change Ok _ _ (.tup [eMach z1, .agg (eGot ⟨zWord, true⟩), sI 0]) at c1
  change Ok _ _ (.tup [eMach z2, .agg (eGot ⟨zWord, true⟩), sI 0]) at c5
  change Ok _ _ (.tup [eMach z3, .agg (eGot ⟨zWord, true⟩), sI 0]) at c6
  generalize (doM z1 1 (a6 1 zWord) 1).1 = y2 at c2
  generalize crashM z1 (-1) = y3 at c3 c4
  generalize crashM z3 (-1) = y7 at c7 c8
  generalize z0 = x0 at c0 c1
  generalize z1 = x1 at c1 c2 c3 c5
  generalize z2 = x2 at c5 c6
  generalize z3 = x3 at c6 c7
  simp only [v6, zWord, a6, List.map_cons, List.map_nil] at c0 c1 c2 c3 c4 c5 c6 c7 c8
  have h22 : ((2 : Nat) : Int) = 2 := rfl
  unfold evFn sc_l6awake rv_l6awake
  have F1 := @h22
  refine ev_seq_k fun K1 hn1 hr1 he1 => ?_
  refine ev_ops_k fun K2 hk2 => ?_
  refine sh1 F1 ?_
  refine hk2 _ ?_
  refine hn1 (some ([], none)) _ ?_
  refine ev_seq_k fun K3 hn3 hr3 he3 => ?_
  refine ev_ops_k fun K4 hk4 => ?_
  refine evL_take 3 fun K5 hk5 => ?_
  refine sh1 F1 ?_
  refine sd ?_
  refine hk5 _ ?_
  refine evL_take 1 fun K6 hk6 => ?_
  refine sh1 F1 ?_
  refine Or.inl (Or.inl ⟨_, c0, ?_⟩)
  refine hk6 _ ?_
  refine evL_take 5 fun K7 hk7 => ?_
  refine sh1 F1 ?_
  refine sd ?_
  refine hk7 _ ?_
  refine sh1 F1 ?_
  refine hk4 _ ?_
  refine hn3 (some ([1, 2], none)) _ ?_
  refine ev_seq_k fun K8 hn8 hr8 he8 => ?_
  refine ev_ops_k fun K9 hk9 => ?_
  refine evL_take 1 fun K10 hk10 => ?_
  refine sh1 F1 ?_
  refine sd ?_
  refine hk10 _ ?_
  refine evL_take 2 fun K11 hk11 => ?_
  refine sh1 F1 ?_
  refine hk11 _ ?_
  refine evL_take 1 fun K12 hk12 => ?_
  refine sh1 F1 ?_
  refine Or.inl (Or.inl ⟨_, c1, ?_⟩)
  refine hk12 _ ?_
  refine evL_take 6 fun K13 hk13 => ?_
  refine sh1 F1 ?_
  refine sd ?_
  refine hk13 _ ?_
  refine evL_take 1 fun K14 hk14 => ?_
  refine sh1 F1 ?_
  refine sd ?_
  refine hk14 _ ?_
  refine sh1 F1 ?_
  refine hk9 _ ?_
  refine hn8 (some ([1, 2, 4], none)) _ ?_
  refine ev_seq_k fun K15 hn15 hr15 he15 => ?_
  refine ev_ops_k fun K16 hk16 => ?_
  refine evL_take 1 fun K17 hk17 => ?_
  refine sh1 F1 ?_
  refine sd ?_
  refine hk17 _ ?_
  refine evL_take 1 fun K18 hk18 => ?_
  refine sh1 F1 ?_
  refine hk18 _ ?_
  refine evL_take 1 fun K19 hk19 => ?_
  refine sh1 F1 ?_
  refine Or.inl (Or.inl ⟨_, c2, ?_⟩)
  refine hk19 _ ?_
  refine evL_take 7 fun K20 hk20 => ?_
  refine sh1 F1 ?_
  refine sd ?_
  refine hk20 _ ?_
  refine evL_take 1 fun K21 hk21 => ?_
  refine sh1 F1 ?_
  refine sd ?_
  refine hk21 _ ?_
  refine sh1 F1 ?_
  refine hk16 _ ?_
  refine hn15 (some ([1, 2, 4, 6, 7], none)) _ ?_
  refine ev_seq_k fun K22 hn22 hr22 he22 => ?_
  refine ev_ops_k fun K23 hk23 => ?_
  refine evL_take 1 fun K24 hk24 => ?_
  refine sh1 F1 ?_
  refine sd ?_
  refine hk24 _ ?_
  refine evL_take 1 fun K25 hk25 => ?_
  refine sh1 F1 ?_
  refine Or.inl (Or.inl ⟨_, c3, ?_⟩)
  refine hk25 _ ?_
  refine evL_take 1 fun K26 hk26 => ?_
  refine sh1 F1 ?_
  refine Or.inl (Or.inl ⟨_, c4, ?_⟩)
  refine hk26 _ ?_
  refine sh1 F1 ?_
  refine hk23 _ ?_
  refine hn22 (some ([1, 2, 4, 6, 7, 8], none)) _ ?_
  refine ev_seq_k fun K27 hn27 hr27 he27 => ?_
  refine ev_ops_k fun K28 hk28 => ?_
  refine evL_take 1 fun K29 hk29 => ?_
  refine sh1 F1 ?_
  refine sd ?_
  refine hk29 _ ?_
  refine evL_take 1 fun K30 hk30 => ?_
  refine sh1 F1 ?_
  refine hk30 _ ?_
  refine evL_take 1 fun K31 hk31 => ?_
  refine sh1 F1 ?_
  refine Or.inl (Or.inl ⟨_, c5, ?_⟩)
  refine hk31 _ ?_
  refine sh1 F1 ?_
  refine sd ?_
  refine hk28 _ ?_
  refine hn27 (some ([1, 2, 4, 6, 7, 8], none)) _ ?_
  refine ev_seq_k fun K32 hn32 hr32 he32 => ?_
  refine ev_ops_k fun K33 hk33 => ?_
  refine evL_take 1 fun K34 hk34 => ?_
  refine sh1 F1 ?_
  refine sd ?_
  refine hk34 _ ?_
  refine evL_take 1 fun K35 hk35 => ?_
  refine sh1 F1 ?_
  refine hk35 _ ?_
  refine evL_take 1 fun K36 hk36 => ?_
  refine sh1 F1 ?_
  refine Or.inl (Or.inl ⟨_, c6, ?_⟩)
  refine hk36 _ ?_
  refine sh1 F1 ?_
  refine sd ?_
  refine hk33 _ ?_
  refine hn32 (some ([1, 2, 4, 6, 7, 8], none)) _ ?_
  refine ev_seq_k fun K37 hn37 hr37 he37 => ?_
  refine ev_ops_k fun K38 hk38 => ?_
  refine evL_take 1 fun K39 hk39 => ?_
  refine sh1 F1 ?_
  refine sd ?_
  refine hk39 _ ?_
  refine evL_take 1 fun K40 hk40 => ?_
  refine sh1 F1 ?_
  refine Or.inl (Or.inl ⟨_, c7, ?_⟩)
  refine hk40 _ ?_
  refine evL_take 1 fun K41 hk41 => ?_
  refine sh1 F1 ?_
  refine Or.inl (Or.inl ⟨_, c8, ?_⟩)
  refine hk41 _ ?_
  refine sh1 F1 ?_
  refine hk38 _ ?_
  refine hn37 (some ([2, 4, 6, 7, 8, 9], none)) _ ?_
  refine ev_seq_k fun K42 hn42 hr42 he42 => ?_
  refine ev_ops_k fun K43 hk43 => ?_
  refine evL_take 2 fun K44 hk44 => ?_
  refine sh1 F1 ?_
  refine sd ?_
  refine hk44 _ ?_
  refine evL_take 3 fun K45 hk45 => ?_
  refine sh1 F1 ?_
  refine sd ?_
  refine hk45 _ ?_
  refine evL_take 4 fun K46 hk46 => ?_
  refine sh1 F1 ?_
  refine sd ?_
  refine hk46 _ ?_
  refine evL_take 5 fun K47 hk47 => ?_
  refine sh1 F1 ?_
  refine sd ?_
  refine hk47 _ ?_
  refine evL_take 1 fun K48 hk48 => ?_
  refine sh1 F1 ?_
  refine sd ?_
  refine hk48 _ ?_
  refine evL_take 5 fun K49 hk49 => ?_
  refine sh1 F1 ?_
  refine sd ?_
  refine hk49 _ ?_
  refine evL_take 4 fun K50 hk50 => ?_
  refine sh1 F1 ?_
  refine sd ?_
  refine hk50 _ ?_
  refine evL_take 2 fun K51 hk51 => ?_
  refine sh1 F1 ?_
  refine sd ?_
  refine hk51 _ ?_
  refine evL_take 1 fun K52 hk52 => ?_
  refine sh1 F1 ?_
  refine sd ?_
  refine hk52 _ ?_
  refine evL_take 5 fun K53 hk53 => ?_
  refine sh1 F1 ?_
  refine sd ?_
  refine hk53 _ ?_
  refine evL_take 4 fun K54 hk54 => ?_
  refine sh1 F1 ?_
  refine sd ?_
  refine hk54 _ ?_
  refine evL_take 2 fun K55 hk55 => ?_
  refine sh1 F1 ?_
  refine sd ?_
  refine hk55 _ ?_
  refine evL_take 1 fun K56 hk56 => ?_
  refine sh1 F1 ?_
  refine sd ?_
  refine hk56 _ ?_
  refine evL_take 4 fun K57 hk57 => ?_
  refine sh1 F1 ?_
  refine sd ?_
  refine hk57 _ ?_
  refine evL_take 2 fun K58 hk58 => ?_
  refine sh1 F1 ?_
  refine sd ?_
  refine hk58 _ ?_
  refine evL_take 1 fun K59 hk59 => ?_
  refine sh1 F1 ?_
  refine sd ?_
  refine hk59 _ ?_
  refine sh1 F1 ?_
  refine hk43 _ ?_
  refine hn42 (some ([0], none)) _ ?_
  exact sf1 F1
end Go.Proofs.Ytfcjkchpldfamaa
