/-
  ArenaAsks by shadows.
-/
import Derived.Test.YtenbagffdlljdaaGreatDoorK12o
import Derived.Test.YtenbagffdlljdaaGreatDoorScArenaAsks
namespace Go.Proofs.YtenbagffdlljdaaGreatDoor
set_option linter.unusedSimpArgs false
set_option linter.unusedVariables false
open Go.RowKit Go.Maps
set_option maxHeartbeats 4000000 in
set_option maxRecDepth 20000 in
theorem okO_ArenaAsks (l : LayV) (a : Int) (O : List (Nat × Ob)) (n : Nat) : OkO 4 [.agg (eLay l),sI a] O n (fun _ r _ _ => r = sB true) := by
 refine okO_of_trS Tryz.func4 tr_ArenaAsks rfl fun J => ?_
 have hid := oid n
 have kc := ok_layCheck l
 by_cases hl : checkL l = 0
 ·rw [hl] at kc
  by_cases ha0 : a < 0
  ·have kT := no_arTake (l := l) a (fun h => absurd h.2.1 (by omega))
   have kG := no_arGive (l := l) a (fun h => absurd h.2.1 (by omega))
   rw [if_pos hl] at kT kG
   have w1 : decide (a < 0) = true := by simp [ha0]
   unfold sc_ArenaAsks rv_ArenaAsks
   have F1 := And.intro @hid @w1
   refine eS fun K1 hn1 hr1 he1 => ?_;refine eO fun K2 hk2 => ?_;refine tL F1 ?_;refine hk2 _ ?_;refine hn1 (some ([1,2],none)) _ ?_;refine eS fun K3 hn3 hr3 he3 => ?_;refine eO fun K4 hk4 => ?_;refine tC 1 F1 ?_;refine tS 1 F1 ?_;refine tS 1 F1 ?_;refine Or.inl (Or.inl ⟨_,kT,?_⟩);refine tS 3 F1 ?_;refine tL F1 ?_;refine hk4 _ ?_;refine hn3 (some ([1,2,5,6],none)) _ ?_;refine eS fun K5 hn5 hr5 he5 => ?_;refine eO fun K6 hk6 => ?_;refine tC 1 F1 ?_;refine tS 1 F1 ?_;refine tS 1 F1 ?_;refine Or.inl (Or.inl ⟨_,kG,?_⟩);refine tS 3 F1 ?_;refine tL F1 ?_;refine hk6 _ ?_;refine hn5 (some ([1,2,5,6,7,8],none)) _ ?_;refine eS fun K7 hn7 hr7 he7 => ?_;refine eO fun K8 hk8 => ?_;refine tL F1 ?_;refine hk8 _ ?_;refine hn7 (some ([1,2,5,6,7,8,9],none)) _ ?_;refine eS fun K9 hn9 hr9 he9 => ?_;refine eS fun K10 hn10 hr10 he10 => ?_;refine eO fun K11 hk11 => ?_;refine tC 1 F1 ?_;refine tS 1 F1 ?_
   refine Or.inl (Or.inl ⟨_,kc,?_⟩);refine tZ F1 ?_;refine hk11 _ ?_;refine hn10 (some ([1,2,5,6,7,8,9,36],none)) _ ?_;refine eCf ?_;refine eS fun K12 hn12 hr12 he12 => ?_;refine eO fun K13 hk13 => ?_;refine tC 2 F1 ?_;refine tS 3 F1 ?_;refine tC 1 F1 ?_;refine tC 1 F1 ?_;refine tL F1 ?_;refine hk13 _ ?_;refine hn12 (some ([5,6,7,8,9,44],none)) _ ?_;refine eCt ?_;refine eO fun K14 hk14 => ?_;refine tL F1 ?_;refine hk14 _ ?_;refine hn9 (some ([5,6,7,8,9],none)) _ ?_;refine eS fun K15 hn15 hr15 he15 => ?_;refine eO fun K16 hk16 => ?_;refine tS 1 F1 ?_;refine tS 1 F1 ?_;refine Or.inl (Or.inl ⟨_,ok_arBlock_nil,?_⟩);refine tS 3 F1 ?_;refine tS 3 F1 ?_;refine tL F1 ?_;refine hk16 _ ?_;refine hn15 (some ([5,6,7,8,9,12],none)) _ ?_;refine eS fun K17 hn17 hr17 he17 => ?_;refine eO fun K18 hk18 => ?_;refine tS 1 F1 ?_;refine tS 1 F1 ?_;refine Or.inl (Or.inl ⟨_,ok_arBlock_nil,?_⟩);refine tS 3 F1 ?_
   refine tS 3 F1 ?_;refine tL F1 ?_;refine hk18 _ ?_;refine hn17 (some ([5,6,7,8,9,12,15],none)) _ ?_;refine eS fun K19 hn19 hr19 he19 => ?_;refine eO fun K20 hk20 => ?_;refine tS 2 F1 ?_;refine tS 1 F1 ?_;refine Or.inl (Or.inl ⟨_,ok_arBlock_no (by decide) (by decide),?_⟩);refine tS 3 F1 ?_;refine tS 3 F1 ?_;refine tL F1 ?_;refine hk20 _ ?_;refine hn19 (some ([5,6,7,8,9,12,15,18],none)) _ ?_;refine eS fun K21 hn21 hr21 he21 => ?_;refine eO fun K22 hk22 => ?_;refine tS 1 F1 ?_;refine Or.inl (Or.inl ⟨_,ok_arBlock_nil,?_⟩);refine tS 3 F1 ?_;refine tS 3 F1 ?_;refine tL F1 ?_;refine hk22 _ ?_;refine hn21 (some ([5,6,7,8,9,12,15,18,21],none)) _ ?_;refine eS fun K23 hn23 hr23 he23 => ?_;refine eO fun K24 hk24 => ?_;refine tC 3 F1 ?_;refine tS 3 F1 ?_;refine tC 1 F1 ?_;refine tS 3 F1 ?_;refine tS 1 F1 ?_;refine Or.inl ⟨_,gen_nil_eq codeIface,?_⟩;refine tC 2 F1 ?_;refine tS 1 F1 ?_;refine Or.inl ⟨_,eqsh_bool _ _,?_⟩
   refine tS 3 F1 ?_;refine tS 1 F1 ?_;refine Or.inl ⟨_,gen_nil_eq codeIface,?_⟩;refine tC 2 F1 ?_;refine tS 1 F1 ?_;refine Or.inl ⟨_,eqsh_bool _ _,?_⟩;refine tS 3 F1 ?_;refine tS 3 F1 ?_;refine tS 3 F1 ?_;refine tS 3 F1 ?_;refine tS 3 F1 ?_;refine tS 3 F1 ?_;refine tS 1 F1 ?_;refine Or.inl (Or.inl ⟨_,ok_l12awake,?_⟩);refine tL F1 ?_;refine hk24 _ ?_;refine hn23 (some ([4],none)) _ ?_
   first | refine finO_ret (sgE1 F1) (sgE1 F1) (sgE1 F1) ?_ | refine finO_next (sgE1 F1) (sgE1 F1) (sgE1 F1) ?_
   try dsimp only
   rfl
  ·by_cases hb : l.blocks ≤ a
   ·have kT := no_arTake (l := l) a (fun h => absurd h.2.2 (by omega))
    have kG := no_arGive (l := l) a (fun h => absurd h.2.2 (by omega))
    rw [if_pos hl] at kT kG
    have w1 : decide (a < 0) = false := by simp; omega
    have w2 : decide (a ≥ l.blocks) = true := by simp; omega
    unfold sc_ArenaAsks rv_ArenaAsks
    have F1 := And.intro @hid (And.intro @w1 @w2)
    refine eS fun K1 hn1 hr1 he1 => ?_;refine eO fun K2 hk2 => ?_;refine tL F1 ?_;refine hk2 _ ?_;refine hn1 (some ([1,2],none)) _ ?_;refine eS fun K3 hn3 hr3 he3 => ?_;refine eO fun K4 hk4 => ?_;refine tC 1 F1 ?_;refine tS 1 F1 ?_;refine tS 1 F1 ?_;refine Or.inl (Or.inl ⟨_,kT,?_⟩);refine tS 3 F1 ?_;refine tL F1 ?_;refine hk4 _ ?_;refine hn3 (some ([1,2,5,6],none)) _ ?_;refine eS fun K5 hn5 hr5 he5 => ?_;refine eO fun K6 hk6 => ?_;refine tC 1 F1 ?_;refine tS 1 F1 ?_;refine tS 1 F1 ?_;refine Or.inl (Or.inl ⟨_,kG,?_⟩);refine tS 3 F1 ?_;refine tL F1 ?_;refine hk6 _ ?_;refine hn5 (some ([1,2,5,6,7,8],none)) _ ?_;refine eS fun K7 hn7 hr7 he7 => ?_;refine eO fun K8 hk8 => ?_;refine tL F1 ?_;refine hk8 _ ?_;refine hn7 (some ([1,2,5,6,7,8,9],none)) _ ?_;refine eS fun K9 hn9 hr9 he9 => ?_;refine eS fun K10 hn10 hr10 he10 => ?_;refine eO fun K11 hk11 => ?_;refine tC 1 F1 ?_;refine tS 1 F1 ?_
    refine Or.inl (Or.inl ⟨_,kc,?_⟩);refine tZ F1 ?_;refine hk11 _ ?_;refine hn10 (some ([1,2,5,6,7,8,9,36],none)) _ ?_;refine eCf ?_;refine eS fun K12 hn12 hr12 he12 => ?_;refine eO fun K13 hk13 => ?_;refine tC 2 F1 ?_;refine tS 3 F1 ?_;refine tC 1 F1 ?_;refine tC 1 F1 ?_;refine tL F1 ?_;refine hk13 _ ?_;refine hn12 (some ([5,6,7,8,9,44],none)) _ ?_;refine eCt ?_;refine eO fun K14 hk14 => ?_;refine tL F1 ?_;refine hk14 _ ?_;refine hn9 (some ([5,6,7,8,9],none)) _ ?_;refine eS fun K15 hn15 hr15 he15 => ?_;refine eO fun K16 hk16 => ?_;refine tS 1 F1 ?_;refine tS 1 F1 ?_;refine Or.inl (Or.inl ⟨_,ok_arBlock_nil,?_⟩);refine tS 3 F1 ?_;refine tS 3 F1 ?_;refine tL F1 ?_;refine hk16 _ ?_;refine hn15 (some ([5,6,7,8,9,12],none)) _ ?_;refine eS fun K17 hn17 hr17 he17 => ?_;refine eO fun K18 hk18 => ?_;refine tS 1 F1 ?_;refine tS 1 F1 ?_;refine Or.inl (Or.inl ⟨_,ok_arBlock_nil,?_⟩);refine tS 3 F1 ?_
    refine tS 3 F1 ?_;refine tL F1 ?_;refine hk18 _ ?_;refine hn17 (some ([5,6,7,8,9,12,15],none)) _ ?_;refine eS fun K19 hn19 hr19 he19 => ?_;refine eO fun K20 hk20 => ?_;refine tS 2 F1 ?_;refine tS 1 F1 ?_;refine Or.inl (Or.inl ⟨_,ok_arBlock_no (by decide) (by decide),?_⟩);refine tS 3 F1 ?_;refine tS 3 F1 ?_;refine tL F1 ?_;refine hk20 _ ?_;refine hn19 (some ([5,6,7,8,9,12,15,18],none)) _ ?_;refine eS fun K21 hn21 hr21 he21 => ?_;refine eO fun K22 hk22 => ?_;refine tS 1 F1 ?_;refine Or.inl (Or.inl ⟨_,ok_arBlock_nil,?_⟩);refine tS 3 F1 ?_;refine tS 3 F1 ?_;refine tL F1 ?_;refine hk22 _ ?_;refine hn21 (some ([5,6,7,8,9,12,15,18,21],none)) _ ?_;refine eS fun K23 hn23 hr23 he23 => ?_;refine eO fun K24 hk24 => ?_;refine tC 3 F1 ?_;refine tS 3 F1 ?_;refine tC 1 F1 ?_;refine tS 3 F1 ?_;refine tS 1 F1 ?_;refine Or.inl ⟨_,gen_nil_eq codeIface,?_⟩;refine tC 2 F1 ?_;refine tS 1 F1 ?_
    refine Or.inl ⟨_,eqsh_bool _ _,?_⟩;refine tS 3 F1 ?_;refine tS 1 F1 ?_;refine Or.inl ⟨_,gen_nil_eq codeIface,?_⟩;refine tC 2 F1 ?_;refine tS 1 F1 ?_;refine Or.inl ⟨_,eqsh_bool _ _,?_⟩;refine tS 3 F1 ?_;refine tS 3 F1 ?_;refine tS 3 F1 ?_;refine tS 3 F1 ?_;refine tS 3 F1 ?_;refine tS 3 F1 ?_;refine tS 1 F1 ?_;refine Or.inl (Or.inl ⟨_,ok_l12awake,?_⟩);refine tL F1 ?_;refine hk24 _ ?_;refine hn23 (some ([4],none)) _ ?_
    first | refine finO_ret (sgE1 F1) (sgE1 F1) (sgE1 F1) ?_ | refine finO_next (sgE1 F1) (sgE1 F1) (sgE1 F1) ?_
    try dsimp only
    rfl
   ·obtain ⟨m,rfl⟩ := Int.eq_ofNat_of_zero_le (show 0 ≤ a by omega)
    have w1 : decide ((m : Int) < 0) = false := decide_eq_false (by omega)
    have w2 : decide ((m : Int) ≥ l.blocks) = false := by simp; omega
    unfold sc_ArenaAsks rv_ArenaAsks
    have F1 := And.intro @hid (And.intro @w1 @w2)
    refine eS fun K1 hn1 hr1 he1 => ?_;refine eO fun K2 hk2 => ?_;refine tL F1 ?_;refine hk2 _ ?_;refine hn1 (some ([1,2],none)) _ ?_;refine eS fun K3 hn3 hr3 he3 => ?_;refine eO fun K4 hk4 => ?_;refine tC 1 F1 ?_;refine tS 1 F1 ?_;refine tS 1 F1 ?_;refine Or.inr (evCallO_mk (ok_arTake hl m (by omega) _ _) (sgE1 F1) (fun Jo0 ro0 Oo0 no0 hPo0 => ?_))
    obtain ⟨L1,rfl,p1,p2,p3,p4⟩ := hPo0
    have p2 : ArF none ((n + 1,.box 25 (eLay l)) :: (n,.gh J) :: O) (n + 2) Oo0 no0 := p2
    have pl1 := p2.le
    have kB1 : Ok 23 [eAr (.tk (takeM l m)) L1] (.tup [sI 0,sI 0,sB false]) := ok_arBlock (.tk (takeM l m)) p1.pl
    have f0 : getA Oo0 n = some (.gh J) := by rw [p2.old n (by omega) (by simp)]; simp [getA]
    have f1 : getA Oo0 (n + 1) = some (.box 25 (eLay l)) := by rw [p2.old (n + 1) (by omega) (by simp)]; simp [getA]
    have hid1 := oid no0
    have e0 := odl (n := no0) (d := n) (by omega)
    have e1 := odl (n := no0) (d := n + 1) (by omega)
    have hpx := plainF (plain_eAr (.tk (takeM l m)) L1)
    have F2 := And.intro F1 (And.intro @hid1 (And.intro @e0 (And.intro @e1 (And.intro @f0 (And.intro @f1 @hpx)))))
    refine tS 3 F2 ?_;refine tL F2 ?_;refine hk4 _ ?_;refine hn3 (some ([1,2,5,6],none)) _ ?_;refine eS fun K5 hn5 hr5 he5 => ?_;refine eO fun K6 hk6 => ?_;refine tC 1 F2 ?_;refine tS 1 F2 ?_;refine tS 1 F2 ?_;refine Or.inr (evCallO_mk (ok_arGive hl m (by omega) _ _) (sgE1 F2) (fun Jo1 ro1 Oo1 no1 hPo1 => ?_))
    obtain ⟨L2,rfl,q1,q2,q3,q4⟩ := hPo1
    have q2 : ArF none (delA Oo0 (n + 2)) no0 Oo1 no1 := q2
    have ql1 := q2.le
    have kB2 : Ok 23 [eAr (.gv (giveA l m)) L2] (.tup [sI 0,sI 0,sB false]) := ok_arBlock (.gv (giveA l m)) q1.pl
    have g0 : getA Oo1 n = some (.gh J) := by rw [q2.old n (by omega) (by simp),getA_delO,if_neg (by omega)]; exact f0
    have g1 : getA Oo1 (n + 1) = some (.box 25 (eLay l)) := by rw [q2.old (n + 1) (by omega) (by simp),getA_delO,if_neg (by omega)]; exact f1
    have hid2 := oid no1
    have j0 := odl (n := no1) (d := n) (by omega)
    have j1 := odl (n := no1) (d := n + 1) (by omega)
    have hpy := plainF (plain_eAr (.gv (giveA l m)) L2)
    have F3 := And.intro F2 (And.intro @hid2 (And.intro @j0 (And.intro @j1 (And.intro @g0 (And.intro @g1 @hpy)))))
    refine tS 3 F3 ?_;refine tL F3 ?_;refine hk6 _ ?_;refine hn5 (some ([1,2,5,6,7,8],none)) _ ?_;refine eS fun K7 hn7 hr7 he7 => ?_;refine eO fun K8 hk8 => ?_;refine tL F3 ?_;refine hk8 _ ?_;refine hn7 (some ([1,2,5,6,7,8,9],none)) _ ?_;refine eS fun K9 hn9 hr9 he9 => ?_;refine eS fun K10 hn10 hr10 he10 => ?_;refine eO fun K11 hk11 => ?_;refine tC 1 F3 ?_;refine tS 1 F3 ?_;refine Or.inl (Or.inl ⟨_,kc,?_⟩);refine tZ F3 ?_;refine hk11 _ ?_;refine hn10 (some ([1,2,5,6,7,8,9,36],none)) _ ?_;refine eCf ?_;refine eS fun K12 hn12 hr12 he12 => ?_;refine eO fun K13 hk13 => ?_;refine tC 2 F3 ?_;refine tS 3 F3 ?_;refine tC 1 F3 ?_;refine tC 1 F3 ?_;refine tL F3 ?_;refine hk13 _ ?_;refine hn12 (some ([5,6,7,8,9,44],none)) _ ?_;refine eCf ?_;refine hn9 (some ([5,6,7,8,9],none)) _ ?_;refine eS fun K14 hn14 _ _ => ?_;refine eO fun K15 hk15 => ?_;refine tS 1 F3 ?_;refine tS 1 F3 ?_;refine Or.inl (Or.inl ⟨_,kB1,?_⟩)
    refine tS 3 F3 ?_;refine tS 3 F3 ?_;refine tL F3 ?_;refine hk15 _ ?_;refine hn14 (some ([5,6,7,8,9,12],none)) _ ?_;refine eS fun K16 hn16 _ _ => ?_;refine eO fun K17 hk17 => ?_;refine tS 1 F3 ?_;refine tS 1 F3 ?_;refine Or.inl (Or.inl ⟨_,kB2,?_⟩);refine tS 3 F3 ?_;refine tS 3 F3 ?_;refine tL F3 ?_;refine hk17 _ ?_;refine hn16 (some ([5,6,7,8,9,12,15],none)) _ ?_;refine eS fun K18 hn18 _ _ => ?_;refine eO fun K19 hk19 => ?_;refine tS 2 F3 ?_;refine tS 1 F3 ?_;refine Or.inl (Or.inl ⟨_,ok_arBlock_no (by decide) (by decide),?_⟩);refine tS 3 F3 ?_;refine tS 3 F3 ?_;refine tL F3 ?_;refine hk19 _ ?_;refine hn18 (some ([5,6,7,8,9,12,15,18],none)) _ ?_;refine eS fun K20 hn20 _ _ => ?_;refine eO fun K21 hk21 => ?_;refine tS 1 F3 ?_;refine Or.inl (Or.inl ⟨_,ok_arBlock_nil,?_⟩);refine tS 3 F3 ?_;refine tS 3 F3 ?_;refine tL F3 ?_;refine hk21 _ ?_;refine hn20 (some ([5,6,7,8,9,12,15,18,21],none)) _ ?_
    refine eS fun K22 hn22 _ _ => ?_;refine eO fun K23 hk23 => ?_;refine tC 3 F3 ?_;refine tS 3 F3 ?_;refine tC 1 F3 ?_;refine tS 3 F3 ?_;refine tS 1 F3 ?_;refine Or.inl ⟨_,gen_some_eq codeIface,?_⟩;refine tC 2 F3 ?_;refine tS 1 F3 ?_;refine Or.inl ⟨_,eqsh_bool _ _,?_⟩;refine tS 3 F3 ?_;refine tS 1 F3 ?_;refine Or.inl ⟨_,gen_some_eq codeIface,?_⟩;refine tC 2 F3 ?_;refine tS 1 F3 ?_;refine Or.inl ⟨_,eqsh_bool _ _,?_⟩;refine tS 3 F3 ?_;refine tS 3 F3 ?_;refine tS 3 F3 ?_;refine tS 3 F3 ?_;refine tS 3 F3 ?_;refine tS 3 F3 ?_;refine tS 1 F3 ?_;refine Or.inl (Or.inl ⟨_,ok_l12awake,?_⟩);refine tL F3 ?_;refine hk23 _ ?_;refine hn22 (some ([4],none)) _ ?_
    first | refine finO_ret (sgE1 F3) (sgE1 F3) (sgE1 F3) ?_ | refine finO_next (sgE1 F3) (sgE1 F3) (sgE1 F3) ?_
    try dsimp only
    rfl
 ·have kT := no_arTake (l := l) a (fun h => hl h.1)
  have kG := no_arGive (l := l) a (fun h => hl h.1)
  rw [if_neg hl] at kT kG
  have w1 : (checkL l != 0) = true := by simp [hl]
  unfold sc_ArenaAsks rv_ArenaAsks
  have F1 := And.intro @hid @w1
  refine eS fun K1 hn1 hr1 he1 => ?_;refine eO fun K2 hk2 => ?_;refine tL F1 ?_;refine hk2 _ ?_;refine hn1 (some ([1,2],none)) _ ?_;refine eS fun K3 hn3 hr3 he3 => ?_;refine eO fun K4 hk4 => ?_;refine tC 1 F1 ?_;refine tS 1 F1 ?_;refine tS 1 F1 ?_;refine Or.inl (Or.inl ⟨_,kT,?_⟩);refine tS 3 F1 ?_;refine tL F1 ?_;refine hk4 _ ?_;refine hn3 (some ([1,2,5,6],none)) _ ?_;refine eS fun K5 hn5 hr5 he5 => ?_;refine eO fun K6 hk6 => ?_;refine tC 1 F1 ?_;refine tS 1 F1 ?_;refine tS 1 F1 ?_;refine Or.inl (Or.inl ⟨_,kG,?_⟩);refine tS 3 F1 ?_;refine tL F1 ?_;refine hk6 _ ?_;refine hn5 (some ([1,2,5,6,7,8],none)) _ ?_;refine eS fun K7 hn7 hr7 he7 => ?_;refine eO fun K8 hk8 => ?_;refine tL F1 ?_;refine hk8 _ ?_;refine hn7 (some ([1,2,5,6,7,8,9],none)) _ ?_;refine eS fun K9 hn9 hr9 he9 => ?_;refine eS fun K10 hn10 hr10 he10 => ?_;refine eO fun K11 hk11 => ?_;refine tC 1 F1 ?_;refine tS 1 F1 ?_
  refine Or.inl (Or.inl ⟨_,kc,?_⟩);refine tZ F1 ?_;refine hk11 _ ?_;refine hn10 (some ([1,2,5,6,7,8,9,36],none)) _ ?_;refine eCt ?_;refine eO fun K12 hk12 => ?_;refine tL F1 ?_;refine hk12 _ ?_;refine hn9 (some ([5,6,7,8,9],none)) _ ?_;refine eS fun K13 hn13 _ _ => ?_;refine eO fun K14 hk14 => ?_;refine tS 1 F1 ?_;refine tS 1 F1 ?_;refine Or.inl (Or.inl ⟨_,ok_arBlock_nil,?_⟩);refine tS 3 F1 ?_;refine tS 3 F1 ?_;refine tL F1 ?_;refine hk14 _ ?_;refine hn13 (some ([5,6,7,8,9,12],none)) _ ?_;refine eS fun K15 hn15 hr15 he15 => ?_;refine eO fun K16 hk16 => ?_;refine tS 1 F1 ?_;refine tS 1 F1 ?_;refine Or.inl (Or.inl ⟨_,ok_arBlock_nil,?_⟩);refine tS 3 F1 ?_;refine tS 3 F1 ?_;refine tL F1 ?_;refine hk16 _ ?_;refine hn15 (some ([5,6,7,8,9,12,15],none)) _ ?_;refine eS fun K17 hn17 hr17 he17 => ?_;refine eO fun K18 hk18 => ?_;refine tS 2 F1 ?_;refine tS 1 F1 ?_;refine Or.inl (Or.inl ⟨_,ok_arBlock_no (by decide) (by decide),?_⟩)
  refine tS 3 F1 ?_;refine tS 3 F1 ?_;refine tL F1 ?_;refine hk18 _ ?_;refine hn17 (some ([5,6,7,8,9,12,15,18],none)) _ ?_;refine eS fun K19 hn19 hr19 he19 => ?_;refine eO fun K20 hk20 => ?_;refine tS 1 F1 ?_;refine Or.inl (Or.inl ⟨_,ok_arBlock_nil,?_⟩);refine tS 3 F1 ?_;refine tS 3 F1 ?_;refine tL F1 ?_;refine hk20 _ ?_;refine hn19 (some ([5,6,7,8,9,12,15,18,21],none)) _ ?_;refine eS fun K21 hn21 hr21 he21 => ?_;refine eO fun K22 hk22 => ?_;refine tC 3 F1 ?_;refine tS 3 F1 ?_;refine tC 1 F1 ?_;refine tS 3 F1 ?_;refine tS 1 F1 ?_;refine Or.inl ⟨_,gen_nil_eq codeIface,?_⟩;refine tC 2 F1 ?_;refine tS 1 F1 ?_;refine Or.inl ⟨_,eqsh_bool _ _,?_⟩;refine tS 3 F1 ?_;refine tS 1 F1 ?_;refine Or.inl ⟨_,gen_nil_eq codeIface,?_⟩;refine tC 2 F1 ?_;refine tS 1 F1 ?_;refine Or.inl ⟨_,eqsh_bool _ _,?_⟩;refine tS 3 F1 ?_;refine tS 3 F1 ?_;refine tS 3 F1 ?_;refine tS 3 F1 ?_;refine tS 3 F1 ?_
  refine tS 3 F1 ?_;refine tS 1 F1 ?_;refine Or.inl (Or.inl ⟨_,ok_l12awake,?_⟩);refine tL F1 ?_;refine hk22 _ ?_;refine hn21 (some ([4],none)) _ ?_
  first | refine finO_ret (sgE1 F1) (sgE1 F1) (sgE1 F1) ?_ | refine finO_next (sgE1 F1) (sgE1 F1) (sgE1 F1) ?_
  try dsimp only
  rfl
theorem ok_ArenaAsks (l : LayV) (a : Int) : Ok 4 [.agg (eLay l),sI a] (sB true) := ok_of_okO (okO_ArenaAsks l a [] 0) rfl
end Go.Proofs.YtenbagffdlljdaaGreatDoor
