/-
  Layer 4 by shadows: reading and writing.
-/
import Derived.Test.YtkmbcjnaaokilaaGreatDoorK4a
namespace Go.Proofs.YtkmbcjnaaokilaaGreatDoor
set_option linter.unusedSimpArgs false
set_option linter.unusedVariables false
open Go.RowKit Go.Maps
theorem at_ok {M : MemM} {n : Nat} (hM : MemOk M n) (a i : Int) : ViewOk (atM (histM M a) i).view := by
 unfold atM
 split
 ·cases e : (histM M a)[i.toNat]? with
  | none => exact viewOk_none
  | some m =>
   have hm := List.mem_of_getElem? e
   unfold histM at hm
   split at hm
   ·cases e2 : M.places[a.toNat]? with
    | none => rw [e2] at hm; simp at hm
    | some h => rw [e2] at hm; exact hM.msgs h (List.mem_of_getElem? e2) m hm
   ·simp at hm
 ·exact viewOk_none
set_option maxHeartbeats 2000000 in
theorem ok_mFinds (M : MemM) (t a i : Int) (j : Bool) {n : Nat} (hM : MemOk M n) (ht : ThrB M t) (ha : PlcB M a) : Ok 120 [eMem M,sI t,sI a,sI i,sB j] (.tup [eMem (findsM M t a i j).1,.agg (eWord (findsM M t a i j).2)]) := by
 refine ok_of_tr Tryz.func120 tr_mFinds rfl ?_
 obtain ⟨m,rfl,hm,e,_⟩ := plc_hist ha
 have hsv := seen_ok hM t
 have hwv := viewOk_with hsv m i
 have hxv := at_ok hM m i
 have hin := (plc_in hM ha).1
 have c2 := ok_vWith (seenM M t) m i hsv hin
 have c3 := ok_vJoin _ _ hwv hxv
 have c4 := fun v => ok_mWith M t v ht hM.vl
 have c0 := ok_hAt (histM M m) i
 unfold findsM
 generalize atM (histM M m) i = x at c0 c3 ⊢
 generalize vWith (seenM M t) m i = v at c2 c3 ⊢
 generalize vJoin v x.view = u at c3 ⊢
 cases j
 ·simp only [Bool.false_eq_true,if_false]
  unfold evFn sc_mFinds rv_mFinds
  have F1 := @e
  refine eS fun K1 hn1 hr1 he1 => ?_;refine eO fun K2 hk2 => ?_;refine tL F1 ?_;refine hk2 _ ?_;refine hn1 (some ([1,2,3,4,5,10,11],none)) _ ?_;refine eS fun K3 hn3 hr3 he3 => ?_;refine eO fun K4 hk4 => ?_;refine tC 2 F1 ?_;refine tC 2 F1 ?_;refine tC 1 F1 ?_;refine tS 1 F1 ?_;refine tS 1 F1 ?_;refine Or.inl (Or.inl ⟨_,c0,?_⟩);refine tC 5 F1 ?_;refine tL F1 ?_;refine hk4 _ ?_;refine hn3 (some ([1,2,3,4,5,10,11,12],none)) _ ?_;refine eS fun K5 hn5 hr5 he5 => ?_;refine eO fun K6 hk6 => ?_;refine tC 1 F1 ?_;refine tS 1 F1 ?_;refine tS 1 F1 ?_;refine Or.inl (Or.inl ⟨_,ok_mSeen M t hM.vl,?_⟩);refine tS 2 F1 ?_;refine tS 1 F1 ?_;refine Or.inl (Or.inl ⟨_,c2,?_⟩);refine tZ F1 ?_;refine hk6 _ ?_;refine hn5 (some ([1,4,5,10,11,12,14],none)) _ ?_;refine eS fun K7 hn7 hr7 he7 => ?_;refine eS fun K8 hn8 hr8 he8 => ?_;refine eO fun K9 hk9 => ?_;refine tL F1 ?_;refine hk9 _ ?_;refine hn8 (some ([1,5,10,11,12,14,31],none)) _ ?_
  refine eCf ?_;refine hn7 (some ([1,5,10,11,12,14],none)) _ ?_;refine eS fun K10 hn10 _ _ => ?_;refine eQ ([]) ?_ (fun K11 hk11 => ?_) ?_
  rotate_left
  ·skip
   refine evTr_flo rfl fun K12 hk12 => ?_;refine sh1 F1 ?_;refine hk12 _ ?_;refine evTr_flo rfl fun K13 hk13 => ?_;refine sh1 F1 ?_;refine hk13 _ ?_;refine ⟨?_,?_⟩
   ·skip
    refine ⟨?_,?_⟩
    ·skip
     refine evTr_step rfl fun K14 hk14 => ?_;refine sh1 F1 ?_;refine sd ?_;refine hk14 _ ?_;refine ⟨?_,?_⟩
     ·skip
      refine evTr_step rfl fun K15 hk15 => ?_;refine sh1 F1 ?_;refine sd ?_;refine hk15 _ ?_;refine ⟨?_,?_⟩
      ·skip
       refine evTr_step rfl fun K16 hk16 => ?_;refine sh1 F1 ?_;refine Or.inl (Or.inl ⟨_,c4 v,?_⟩);refine hk16 _ ?_;refine ⟨?_,?_⟩
       ·skip
        refine evTr_step rfl fun K17 hk17 => ?_;refine sh1 F1 ?_;refine sd ?_;refine hk17 _ ?_;refine evTr_step rfl fun K18 hk18 => ?_;refine sh1 F1 ?_;refine sd ?_;refine hk18 _ ?_;refine evTr_step rfl fun K19 hk19 => ?_;refine sh1 F1 ?_;refine sd ?_;refine hk19 _ ?_;refine hk11 _ (some ([10,11],none)) ?_
        exact sl0
       ·skip
        refine evTr_step rfl fun K20 hk20 => ?_;refine sh1 F1 ?_;refine sd ?_;refine hk20 _ ?_;refine evTr_step rfl fun K21 hk21 => ?_;refine sh1 F1 ?_;refine sd ?_;refine hk21 _ ?_;refine evTr_step rfl fun K22 hk22 => ?_;refine sh1 F1 ?_;refine sd ?_;refine hk22 _ ?_;refine hk11 _ (some ([10,11],none)) ?_
        exact sl0
      ·skip
       refine evTr_step rfl fun K23 hk23 => ?_;refine sh1 F1 ?_;refine sd ?_;refine hk23 _ ?_;refine evTr_step rfl fun K24 hk24 => ?_;refine sh1 F1 ?_;refine Or.inl (Or.inl ⟨_,c4 v,?_⟩);refine hk24 _ ?_;refine evTr_step rfl fun K25 hk25 => ?_;refine sh1 F1 ?_;refine sd ?_;refine hk25 _ ?_;refine evTr_step rfl fun K26 hk26 => ?_;refine sh1 F1 ?_;refine sd ?_;refine hk26 _ ?_;refine hk11 _ (some ([10,11],none)) ?_
       exact sl0
     ·skip
      refine evTr_step rfl fun K27 hk27 => ?_;refine sh1 F1 ?_;refine sd ?_;refine hk27 _ ?_;refine evTr_step rfl fun K28 hk28 => ?_;refine sh1 F1 ?_;refine sd ?_;refine hk28 _ ?_;refine evTr_step rfl fun K29 hk29 => ?_;refine sh1 F1 ?_;refine Or.inl (Or.inl ⟨_,c4 v,?_⟩);refine hk29 _ ?_;refine evTr_step rfl fun K30 hk30 => ?_;refine sh1 F1 ?_;refine sd ?_;refine hk30 _ ?_;refine evTr_step rfl fun K31 hk31 => ?_;refine sh1 F1 ?_;refine sd ?_;refine hk31 _ ?_;refine hk11 _ (some ([10,11],none)) ?_
      exact sl0
    ·skip
     refine evTr_step rfl fun K32 hk32 => ?_;refine sh1 F1 ?_;refine sd ?_;refine hk32 _ ?_;refine ⟨?_,?_⟩
     ·skip
      refine evTr_step rfl fun K33 hk33 => ?_;refine sh1 F1 ?_;refine sd ?_;refine hk33 _ ?_;refine ⟨?_,?_⟩
      ·skip
       refine evTr_step rfl fun K34 hk34 => ?_;refine sh1 F1 ?_;refine Or.inl (Or.inl ⟨_,c4 v,?_⟩);refine hk34 _ ?_;refine ⟨?_,?_⟩
       ·skip
        refine evTr_step rfl fun K35 hk35 => ?_;refine sh1 F1 ?_;refine sd ?_;refine hk35 _ ?_;refine evTr_step rfl fun K36 hk36 => ?_;refine sh1 F1 ?_;refine sd ?_;refine hk36 _ ?_;refine evTr_step rfl fun K37 hk37 => ?_;refine sh1 F1 ?_;refine sd ?_;refine hk37 _ ?_;refine hk11 _ (some ([10,11],none)) ?_
        exact sl0
       ·skip
        refine evTr_step rfl fun K38 hk38 => ?_;refine sh1 F1 ?_;refine sd ?_;refine hk38 _ ?_;refine evTr_step rfl fun K39 hk39 => ?_;refine sh1 F1 ?_;refine sd ?_;refine hk39 _ ?_;refine evTr_step rfl fun K40 hk40 => ?_;refine sh1 F1 ?_;refine sd ?_;refine hk40 _ ?_;refine hk11 _ (some ([10,11],none)) ?_
        exact sl0
      ·skip
       refine evTr_step rfl fun K41 hk41 => ?_;refine sh1 F1 ?_;refine sd ?_;refine hk41 _ ?_;refine evTr_step rfl fun K42 hk42 => ?_;refine sh1 F1 ?_;refine Or.inl (Or.inl ⟨_,c4 v,?_⟩);refine hk42 _ ?_;refine evTr_step rfl fun K43 hk43 => ?_;refine sh1 F1 ?_;refine sd ?_;refine hk43 _ ?_;refine evTr_step rfl fun K44 hk44 => ?_;refine sh1 F1 ?_;refine sd ?_;refine hk44 _ ?_;refine hk11 _ (some ([10,11],none)) ?_
       exact sl0
     ·skip
      refine evTr_step rfl fun K45 hk45 => ?_;refine sh1 F1 ?_;refine sd ?_;refine hk45 _ ?_;refine evTr_step rfl fun K46 hk46 => ?_;refine sh1 F1 ?_;refine sd ?_;refine hk46 _ ?_;refine evTr_step rfl fun K47 hk47 => ?_;refine sh1 F1 ?_;refine Or.inl (Or.inl ⟨_,c4 v,?_⟩);refine hk47 _ ?_;refine evTr_step rfl fun K48 hk48 => ?_;refine sh1 F1 ?_;refine sd ?_;refine hk48 _ ?_;refine evTr_step rfl fun K49 hk49 => ?_;refine sh1 F1 ?_;refine sd ?_;refine hk49 _ ?_;refine hk11 _ (some ([10,11],none)) ?_
      exact sl0
   ·skip
    refine evTr_step rfl fun K50 hk50 => ?_;refine sh1 F1 ?_;refine sd ?_;refine hk50 _ ?_;refine ⟨?_,?_⟩
    ·skip
     refine evTr_step rfl fun K51 hk51 => ?_;refine sh1 F1 ?_;refine sd ?_;refine hk51 _ ?_;refine evTr_step rfl fun K52 hk52 => ?_;refine sh1 F1 ?_;refine sd ?_;refine hk52 _ ?_;refine evTr_step rfl fun K53 hk53 => ?_;refine sh1 F1 ?_;refine Or.inl (Or.inl ⟨_,c4 v,?_⟩);refine hk53 _ ?_;refine evTr_step rfl fun K54 hk54 => ?_;refine sh1 F1 ?_;refine sd ?_;refine hk54 _ ?_;refine evTr_step rfl fun K55 hk55 => ?_;refine sh1 F1 ?_;refine sd ?_;refine hk55 _ ?_;refine hk11 _ (some ([10,11],none)) ?_
     exact sl0
    ·skip
     refine evTr_step rfl fun K56 hk56 => ?_;refine sh1 F1 ?_;refine sd ?_;refine hk56 _ ?_;refine evTr_step rfl fun K57 hk57 => ?_;refine sh1 F1 ?_;refine sd ?_;refine hk57 _ ?_;refine evTr_step rfl fun K58 hk58 => ?_;refine sh1 F1 ?_;refine Or.inl (Or.inl ⟨_,c4 v,?_⟩);refine hk58 _ ?_;refine evTr_step rfl fun K59 hk59 => ?_;refine sh1 F1 ?_;refine sd ?_;refine hk59 _ ?_;refine evTr_step rfl fun K60 hk60 => ?_;refine sh1 F1 ?_;refine sd ?_;refine hk60 _ ?_;refine hk11 _ (some ([10,11],none)) ?_
     exact sl0
  refine hn10 (some ([10,11],none)) _ ?_
  exact sf1 F1
 ·simp only [if_true]
  unfold evFn sc_mFinds rv_mFinds
  have F1 := @e
  refine eS fun K1 hn1 hr1 he1 => ?_;refine eO fun K2 hk2 => ?_;refine tL F1 ?_;refine hk2 _ ?_;refine hn1 (some ([1,2,3,4,5,10,11],none)) _ ?_;refine eS fun K3 hn3 hr3 he3 => ?_;refine eO fun K4 hk4 => ?_;refine tC 2 F1 ?_;refine tC 2 F1 ?_;refine tC 1 F1 ?_;refine tS 1 F1 ?_;refine tS 1 F1 ?_;refine Or.inl (Or.inl ⟨_,c0,?_⟩);refine tC 5 F1 ?_;refine tL F1 ?_;refine hk4 _ ?_;refine hn3 (some ([1,2,3,4,5,10,11,12],none)) _ ?_;refine eS fun K5 hn5 hr5 he5 => ?_;refine eO fun K6 hk6 => ?_;refine tC 1 F1 ?_;refine tS 1 F1 ?_;refine tS 1 F1 ?_;refine Or.inl (Or.inl ⟨_,ok_mSeen M t hM.vl,?_⟩);refine tS 2 F1 ?_;refine tS 1 F1 ?_;refine Or.inl (Or.inl ⟨_,c2,?_⟩);refine tZ F1 ?_;refine hk6 _ ?_;refine hn5 (some ([1,4,5,10,11,12,14],none)) _ ?_;refine eS fun K7 hn7 hr7 he7 => ?_;refine eS fun K8 hn8 hr8 he8 => ?_;refine eO fun K9 hk9 => ?_;refine tL F1 ?_;refine hk9 _ ?_;refine hn8 (some ([1,5,10,11,12,14,31],none)) _ ?_
  refine eCt ?_;refine eO fun K10 hk10 => ?_;refine tC 1 F1 ?_;refine tC 2 F1 ?_;refine tS 1 F1 ?_;refine Or.inl (Or.inl ⟨_,c3,?_⟩);refine tZ F1 ?_;refine hk10 _ ?_;refine hn7 (some ([1,5,10,11,12,14],none)) _ ?_;refine eS fun K11 hn11 _ _ => ?_;refine eQ ([]) ?_ (fun K12 hk12 => ?_) ?_
  rotate_left
  ·skip
   refine evTr_flo rfl fun K13 hk13 => ?_;refine sh1 F1 ?_;refine hk13 _ ?_;refine evTr_flo rfl fun K14 hk14 => ?_;refine sh1 F1 ?_;refine hk14 _ ?_;refine ⟨?_,?_⟩
   ·skip
    refine ⟨?_,?_⟩
    ·skip
     refine evTr_step rfl fun K15 hk15 => ?_;refine sh1 F1 ?_;refine sd ?_;refine hk15 _ ?_;refine ⟨?_,?_⟩
     ·skip
      refine evTr_step rfl fun K16 hk16 => ?_;refine sh1 F1 ?_;refine sd ?_;refine hk16 _ ?_;refine ⟨?_,?_⟩
      ·skip
       refine evTr_step rfl fun K17 hk17 => ?_;refine sh1 F1 ?_;refine Or.inl (Or.inl ⟨_,c4 u,?_⟩);refine hk17 _ ?_;refine ⟨?_,?_⟩
       ·skip
        refine evTr_step rfl fun K18 hk18 => ?_;refine sh1 F1 ?_;refine sd ?_;refine hk18 _ ?_;refine evTr_step rfl fun K19 hk19 => ?_;refine sh1 F1 ?_;refine sd ?_;refine hk19 _ ?_;refine evTr_step rfl fun K20 hk20 => ?_;refine sh1 F1 ?_;refine sd ?_;refine hk20 _ ?_;refine hk12 _ (some ([10,11],none)) ?_
        exact sl0
       ·skip
        refine evTr_step rfl fun K21 hk21 => ?_;refine sh1 F1 ?_;refine sd ?_;refine hk21 _ ?_;refine evTr_step rfl fun K22 hk22 => ?_;refine sh1 F1 ?_;refine sd ?_;refine hk22 _ ?_;refine evTr_step rfl fun K23 hk23 => ?_;refine sh1 F1 ?_;refine sd ?_;refine hk23 _ ?_;refine hk12 _ (some ([10,11],none)) ?_
        exact sl0
      ·skip
       refine evTr_step rfl fun K24 hk24 => ?_;refine sh1 F1 ?_;refine sd ?_;refine hk24 _ ?_;refine evTr_step rfl fun K25 hk25 => ?_;refine sh1 F1 ?_;refine Or.inl (Or.inl ⟨_,c4 u,?_⟩);refine hk25 _ ?_;refine evTr_step rfl fun K26 hk26 => ?_;refine sh1 F1 ?_;refine sd ?_;refine hk26 _ ?_;refine evTr_step rfl fun K27 hk27 => ?_;refine sh1 F1 ?_;refine sd ?_;refine hk27 _ ?_;refine hk12 _ (some ([10,11],none)) ?_
       exact sl0
     ·skip
      refine evTr_step rfl fun K28 hk28 => ?_;refine sh1 F1 ?_;refine sd ?_;refine hk28 _ ?_;refine evTr_step rfl fun K29 hk29 => ?_;refine sh1 F1 ?_;refine sd ?_;refine hk29 _ ?_;refine evTr_step rfl fun K30 hk30 => ?_;refine sh1 F1 ?_;refine Or.inl (Or.inl ⟨_,c4 u,?_⟩);refine hk30 _ ?_;refine evTr_step rfl fun K31 hk31 => ?_;refine sh1 F1 ?_;refine sd ?_;refine hk31 _ ?_;refine evTr_step rfl fun K32 hk32 => ?_;refine sh1 F1 ?_;refine sd ?_;refine hk32 _ ?_;refine hk12 _ (some ([10,11],none)) ?_
      exact sl0
    ·skip
     refine evTr_step rfl fun K33 hk33 => ?_;refine sh1 F1 ?_;refine sd ?_;refine hk33 _ ?_;refine ⟨?_,?_⟩
     ·skip
      refine evTr_step rfl fun K34 hk34 => ?_;refine sh1 F1 ?_;refine sd ?_;refine hk34 _ ?_;refine ⟨?_,?_⟩
      ·skip
       refine evTr_step rfl fun K35 hk35 => ?_;refine sh1 F1 ?_;refine Or.inl (Or.inl ⟨_,c4 u,?_⟩);refine hk35 _ ?_;refine ⟨?_,?_⟩
       ·skip
        refine evTr_step rfl fun K36 hk36 => ?_;refine sh1 F1 ?_;refine sd ?_;refine hk36 _ ?_;refine evTr_step rfl fun K37 hk37 => ?_;refine sh1 F1 ?_;refine sd ?_;refine hk37 _ ?_;refine evTr_step rfl fun K38 hk38 => ?_;refine sh1 F1 ?_;refine sd ?_;refine hk38 _ ?_;refine hk12 _ (some ([10,11],none)) ?_
        exact sl0
       ·skip
        refine evTr_step rfl fun K39 hk39 => ?_;refine sh1 F1 ?_;refine sd ?_;refine hk39 _ ?_;refine evTr_step rfl fun K40 hk40 => ?_;refine sh1 F1 ?_;refine sd ?_;refine hk40 _ ?_;refine evTr_step rfl fun K41 hk41 => ?_;refine sh1 F1 ?_;refine sd ?_;refine hk41 _ ?_;refine hk12 _ (some ([10,11],none)) ?_
        exact sl0
      ·skip
       refine evTr_step rfl fun K42 hk42 => ?_;refine sh1 F1 ?_;refine sd ?_;refine hk42 _ ?_;refine evTr_step rfl fun K43 hk43 => ?_;refine sh1 F1 ?_;refine Or.inl (Or.inl ⟨_,c4 u,?_⟩);refine hk43 _ ?_;refine evTr_step rfl fun K44 hk44 => ?_;refine sh1 F1 ?_;refine sd ?_;refine hk44 _ ?_;refine evTr_step rfl fun K45 hk45 => ?_;refine sh1 F1 ?_;refine sd ?_;refine hk45 _ ?_;refine hk12 _ (some ([10,11],none)) ?_
       exact sl0
     ·skip
      refine evTr_step rfl fun K46 hk46 => ?_;refine sh1 F1 ?_;refine sd ?_;refine hk46 _ ?_;refine evTr_step rfl fun K47 hk47 => ?_;refine sh1 F1 ?_;refine sd ?_;refine hk47 _ ?_;refine evTr_step rfl fun K48 hk48 => ?_;refine sh1 F1 ?_;refine Or.inl (Or.inl ⟨_,c4 u,?_⟩);refine hk48 _ ?_;refine evTr_step rfl fun K49 hk49 => ?_;refine sh1 F1 ?_;refine sd ?_;refine hk49 _ ?_;refine evTr_step rfl fun K50 hk50 => ?_;refine sh1 F1 ?_;refine sd ?_;refine hk50 _ ?_;refine hk12 _ (some ([10,11],none)) ?_
      exact sl0
   ·skip
    refine evTr_step rfl fun K51 hk51 => ?_;refine sh1 F1 ?_;refine sd ?_;refine hk51 _ ?_;refine ⟨?_,?_⟩
    ·skip
     refine evTr_step rfl fun K52 hk52 => ?_;refine sh1 F1 ?_;refine sd ?_;refine hk52 _ ?_;refine evTr_step rfl fun K53 hk53 => ?_;refine sh1 F1 ?_;refine sd ?_;refine hk53 _ ?_;refine evTr_step rfl fun K54 hk54 => ?_;refine sh1 F1 ?_;refine Or.inl (Or.inl ⟨_,c4 u,?_⟩);refine hk54 _ ?_;refine evTr_step rfl fun K55 hk55 => ?_;refine sh1 F1 ?_;refine sd ?_;refine hk55 _ ?_;refine evTr_step rfl fun K56 hk56 => ?_;refine sh1 F1 ?_;refine sd ?_;refine hk56 _ ?_;refine hk12 _ (some ([10,11],none)) ?_
     exact sl0
    ·skip
     refine evTr_step rfl fun K57 hk57 => ?_;refine sh1 F1 ?_;refine sd ?_;refine hk57 _ ?_;refine evTr_step rfl fun K58 hk58 => ?_;refine sh1 F1 ?_;refine sd ?_;refine hk58 _ ?_;refine evTr_step rfl fun K59 hk59 => ?_;refine sh1 F1 ?_;refine Or.inl (Or.inl ⟨_,c4 u,?_⟩);refine hk59 _ ?_;refine evTr_step rfl fun K60 hk60 => ?_;refine sh1 F1 ?_;refine sd ?_;refine hk60 _ ?_;refine evTr_step rfl fun _ hk61 => ?_;refine sh1 F1 ?_;refine sd ?_;refine hk61 _ ?_;refine hk12 _ (some ([10,11],none)) ?_
     exact sl0
  refine hn11 (some ([10,11],none)) _ ?_
  exact sf1 F1
set_option maxHeartbeats 2000000 in
theorem ok_mAdds (M : MemM) (t a : Int) (w : WordV) (whole : Bool) {n : Nat} (hM : MemOk M n) (hn : n ≤ 10000) (ht : ThrB M t) (ha : PlcB M a) : Ok 107 [eMem M,sI t,sI a,.agg (eWord w),sB whole] (eMem (addsM M t a w whole)) := by
 refine ok_of_tr Tryz.func107 tr_mAdds rfl ?_
 obtain ⟨m,rfl,hm,e,_⟩ := plc_hist ha
 have hsv := seen_ok hM t
 have hin := (plc_in hM ha).1
 have hpl := hM.pl
 have hhl := hist_len hM m
 have c2 := ok_vWith (seenM M t) m (histM M m).length hsv hin
 have c3 := ok_vWith (fun _ => none) m (histM M m).length viewOk_none hin
 have q1 : IntKind.i64.wrap ((m : Int) + 1) = ((m + 1 : Nat) : Int) := by rw [IntKind.wrap_i64]; omega
 have c4 := fun (P : List (List MsgV)) v => ok_mWith ⟨P,M.views⟩ t v ht hM.vl
 have hfin : ∀ x : List MsgV,(M.places.map ePlace).take m ++ [[Sh.sl 5 0 (x.map eMsg)]] ++ (M.places.map ePlace).drop (m + 1) = (M.places.set m x).map ePlace := fun x => by
  rw [List.map_set,List.set_eq_take_append_cons_drop,if_pos (by simpa using hm)]
  simp
 unfold addsM toldM
 generalize vWith (seenM M t) m (histM M m).length = v at c2 ⊢
 generalize vWith (fun _ => none) m (histM M m).length = u at c3 ⊢
 cases whole
 ·simp only [Bool.false_eq_true,if_false]
  unfold evFn sc_mAdds rv_mAdds
  have F1 := And.intro @e @q1
  refine eS fun K1 hn1 hr1 he1 => ?_;refine eO fun K2 hk2 => ?_;refine tL F1 ?_;refine hk2 _ ?_;refine hn1 (some ([1,2,4,5,8,10],none)) _ ?_;refine eS fun K3 hn3 hr3 he3 => ?_;refine eO fun K4 hk4 => ?_;refine tC 2 F1 ?_;refine tC 2 F1 ?_;refine tC 1 F1 ?_;refine tZ F1 ?_;refine hk4 _ ?_;refine hn3 (some ([1,2,4,5,8,10,11],none)) _ ?_;refine eS fun K5 hn5 hr5 he5 => ?_;refine eD [] (n := 8) fun K6 hk6 => ?_;refine sq0 ?_;refine fC 1 F1 ?_;refine fS 1 F1 ?_;refine fS 1 F1 ?_;refine ⟨_,ok_mSeen M t hM.vl,?_⟩;refine fC 2 F1 ?_;refine fS 1 F1 ?_;refine ⟨_,ok_hLen _,?_⟩;refine fS 1 F1 ?_;refine ⟨_,c2,?_⟩;refine fL F1 ?_;refine hk6 _ ?_;refine sr0 ?_;refine tZ F1 ?_;refine hn5 (some ([1,2,4,5,8,10,11,12],none)) _ ?_;refine eS fun K8 hn8 hr8 he8 => ?_;refine eO fun K9 hk9 => ?_;refine tC 1 F1 ?_;refine tZ F1 ?_;refine hk9 _ ?_;refine hn8 (some ([1,2,4,5,8,10,11,12,13],none)) _ ?_;refine eS fun K10 hn10 hr10 he10 => ?_
  refine eS fun K11 hn11 hr11 he11 => ?_;refine eO fun K12 hk12 => ?_;refine tL F1 ?_;refine hk12 _ ?_;refine hn11 (some ([1,2,5,8,10,11,12,13,30],none)) _ ?_;refine eCt ?_;refine eO fun K13 hk13 => ?_;refine tC 3 F1 ?_;refine tS 1 F1 ?_;refine Or.inl (Or.inl ⟨_,ok_hLen _,?_⟩);refine tS 1 F1 ?_;refine Or.inl (Or.inl ⟨_,c3,?_⟩);refine tZ F1 ?_;refine hk13 _ ?_;refine hn10 (some ([1,2,5,8,10,11,12,13],none)) _ ?_;refine eS fun K14 hn14 _ _ => ?_;refine eO fun K15 hk15 => ?_;refine tC 2 F1 ?_;refine tC 2 F1 ?_;refine tC 1 F1 ?_;refine tL F1 ?_;refine hk15 _ ?_;refine hn14 (some ([1,2,5,8,10,11,12,13,14],none)) _ ?_;refine eS fun K16 hn16 _ _ => ?_;refine eD [] (n := 12) fun _ hk17 => ?_;refine sq0 ?_;refine fC 2 F1 ?_;refine fC 3 F1 ?_;refine fC 1 F1 ?_;refine fC 1 F1 ?_;refine fC 2 F1 ?_;refine fS 1 F1 ?_;refine fS 1 F1 ?_;refine ⟨_,ok_hAdd _ ⟨w,t,u⟩ (by omega),?_⟩;refine fZ F1 ?_
  refine hk17 _ ?_;refine sr0 ?_;refine tC 1 F1 ?_;refine tL F1 ?_;refine hn16 (some ([1,5,10,12,14,15],none)) _ ?_;refine eS fun K19 hn19 _ _ => ?_;refine eO fun K20 hk20 => ?_;refine tC 3 F1 ?_;refine tZ F1 ?_;refine hk20 _ ?_;refine hn19 (some ([1,5,10,12],none)) _ ?_;refine eS fun K21 hn21 _ _ => ?_;refine eO fun _ hk22 => ?_;refine tC 1 F1 ?_;refine tC 2 F1 ?_;refine tS 1 F1 ?_
  rw [hfin]
  refine Or.inl (Or.inl ⟨_,c4 _ v,?_⟩);refine tZ F1 ?_;refine hk22 _ ?_;refine hn21 (some ([10],none)) _ ?_
  exact sf1 F1
 ·simp only [if_true]
  unfold evFn sc_mAdds rv_mAdds
  have F1 := And.intro @e @q1
  refine eS fun K1 hn1 hr1 he1 => ?_;refine eO fun K2 hk2 => ?_;refine tL F1 ?_;refine hk2 _ ?_;refine hn1 (some ([1,2,4,5,8,10],none)) _ ?_;refine eS fun K3 hn3 hr3 he3 => ?_;refine eO fun K4 hk4 => ?_;refine tC 2 F1 ?_;refine tC 2 F1 ?_;refine tC 1 F1 ?_;refine tZ F1 ?_;refine hk4 _ ?_;refine hn3 (some ([1,2,4,5,8,10,11],none)) _ ?_;refine eS fun K5 hn5 hr5 he5 => ?_;refine eD [] (n := 8) fun K6 hk6 => ?_;refine sq0 ?_;refine fC 1 F1 ?_;refine fS 1 F1 ?_;refine fS 1 F1 ?_;refine ⟨_,ok_mSeen M t hM.vl,?_⟩;refine fC 2 F1 ?_;refine fS 1 F1 ?_;refine ⟨_,ok_hLen _,?_⟩;refine fS 1 F1 ?_;refine ⟨_,c2,?_⟩;refine fL F1 ?_;refine hk6 _ ?_;refine sr0 ?_;refine tZ F1 ?_;refine hn5 (some ([1,2,4,5,8,10,11,12],none)) _ ?_;refine eS fun K8 hn8 hr8 he8 => ?_;refine eO fun K9 hk9 => ?_;refine tC 1 F1 ?_;refine tZ F1 ?_;refine hk9 _ ?_;refine hn8 (some ([1,2,4,5,8,10,11,12,13],none)) _ ?_;refine eS fun K10 hn10 hr10 he10 => ?_
  refine eS fun K11 hn11 hr11 he11 => ?_;refine eO fun K12 hk12 => ?_;refine tL F1 ?_;refine hk12 _ ?_;refine hn11 (some ([1,2,5,8,10,11,12,13,30],none)) _ ?_;refine eCf ?_;refine hn10 (some ([1,2,5,8,10,11,12,13],none)) _ ?_;refine eS fun K13 hn13 _ _ => ?_;refine eO fun K14 hk14 => ?_;refine tC 2 F1 ?_;refine tC 2 F1 ?_;refine tC 1 F1 ?_;refine tL F1 ?_;refine hk14 _ ?_;refine hn13 (some ([1,2,5,8,10,11,12,13,14],none)) _ ?_;refine eS fun K15 hn15 _ _ => ?_;refine eD [] (n := 12) fun K16 hk16 => ?_;refine sq0 ?_;refine fC 2 F1 ?_;refine fC 3 F1 ?_;refine fC 1 F1 ?_;refine fC 1 F1 ?_;refine fC 2 F1 ?_;refine fS 1 F1 ?_;refine fS 1 F1 ?_;refine ⟨_,ok_hAdd _ ⟨w,t,v⟩ (by omega),?_⟩;refine fZ F1 ?_;refine hk16 _ ?_;refine sr0 ?_;refine tC 1 F1 ?_;refine tL F1 ?_;refine hn15 (some ([1,5,10,12,14,15],none)) _ ?_;refine eS fun _ hn18 _ _ => ?_;refine eO fun K19 hk19 => ?_;refine tC 3 F1 ?_
  refine tZ F1 ?_;refine hk19 _ ?_;refine hn18 (some ([1,5,10,12],none)) _ ?_;refine eS fun K20 hn20 _ _ => ?_;refine eO fun K21 hk21 => ?_;refine tC 1 F1 ?_;refine tC 2 F1 ?_;refine tS 1 F1 ?_
  rw [hfin]
  refine Or.inl (Or.inl ⟨_,c4 _ v,?_⟩);refine tZ F1 ?_;refine hk21 _ ?_;refine hn20 (some ([10],none)) _ ?_
  exact sf1 F1
end Go.Proofs.YtkmbcjnaaokilaaGreatDoor
