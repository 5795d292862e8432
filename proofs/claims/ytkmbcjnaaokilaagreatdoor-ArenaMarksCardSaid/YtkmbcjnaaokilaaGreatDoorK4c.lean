/-
  Layer 4 by shadows: the operations.
-/
import Derived.Test.YtkmbcjnaaokilaaGreatDoorK4b
namespace Go.Proofs.YtkmbcjnaaokilaaGreatDoor
set_option linter.unusedSimpArgs false
set_option linter.unusedVariables false
open Go.RowKit Go.Maps
theorem memOk_up {M : MemM} {n k : Nat} (h : MemOk M n) (hk : n ≤ k) : MemOk M k := ⟨h.pl,h.vl,h.one,fun x hx => Nat.le_trans (h.most x hx) hk,h.msgs,h.views⟩
theorem memOk_with {M : MemM} {n : Nat} (h : MemOk M n) (t : Int) {v : ViewV} (hv : ViewOk v) : MemOk (withM M t v) n := by
 refine ⟨h.pl,by simp only [withM,List.length_set]; exact h.vl,h.one,h.most,h.msgs,fun x hx => ?_⟩
 rcases List.mem_or_eq_of_mem_set hx with hx | rfl
 ·exact h.views x hx
 ·exact hv
theorem memOk_finds {M : MemM} {n : Nat} (h : MemOk M n) (t a i : Int) (j : Bool) : MemOk (findsM M t a i j).1 n := by
 unfold findsM
 refine memOk_with h t ?_
 split
 ·exact viewOk_join (viewOk_with (seen_ok h t) _ _) (at_ok h a i)
 ·exact viewOk_with (seen_ok h t) _ _
theorem memOk_adds {M : MemM} {n : Nat} (h : MemOk M n) (t a : Int) (w : WordV) (b : Bool) : MemOk (addsM M t a w b) (n + 1) := by
 unfold addsM
 have hl := hist_len h a
 have hmem : ∀ x ∈ histM M a,ViewOk x.view := fun x hx => by
  unfold histM at hx
  split at hx
  ·cases e2 : M.places[a.toNat]? with
   | none => rw [e2] at hx; simp at hx
   | some h2 => rw [e2] at hx; exact h.msgs h2 (List.mem_of_getElem? e2) x hx
  ·simp at hx
 refine memOk_with (M := { M with places := M.places.set a.toNat (histM M a ++ [⟨w,t,toldM M t a b⟩]) }) ?_ t (viewOk_with (seen_ok h t) _ _);refine ⟨by simpa using h.pl,h.vl,fun x hx => ?_,fun x hx => ?_,fun x hx m hm => ?_,h.views⟩
 ·rcases List.mem_or_eq_of_mem_set hx with hx | rfl
  ·exact h.one x hx
  ·simp
 ·rcases List.mem_or_eq_of_mem_set hx with hx | rfl
  ·have := h.most x hx; omega
  ·simp; omega
 ·rcases List.mem_or_eq_of_mem_set hx with hx | rfl
  ·exact h.msgs x hx m hm
  ·rcases List.mem_append.1 hm with hm | hm
   ·exact hmem m hm
   ·simp only [List.mem_singleton] at hm
    subst hm
    unfold toldM
    simp only
    split
    ·exact viewOk_with (seen_ok h t) _ _
    ·exact viewOk_with viewOk_none _ _
theorem size_finds (M : MemM) (t a i : Int) (j : Bool) : (findsM M t a i j).1.views.length = M.views.length ∧ (findsM M t a i j).1.places = M.places := by simp [findsM,withM]
theorem size_adds (M : MemM) (t a : Int) (w : WordV) (b : Bool) : (addsM M t a w b).views.length = M.views.length ∧ (addsM M t a w b).places.length = M.places.length := by simp [addsM,withM]
theorem memOk_load {M : MemM} {n : Nat} (h : MemOk M n) (t a : Int) (q : Bool) (c : Int) : MemOk (loadM M t a q c).1 n := by
 unfold loadM; split
 ·exact memOk_finds h _ _ _ _
 ·exact h
theorem memOk_look {M : MemM} {n : Nat} (h : MemOk M n) (t a : Int) : MemOk (look1M M t a).1 n := by
 unfold look1M; split
 ·exact memOk_finds h _ _ _ _
 ·exact h
theorem memOk_store {M : MemM} {n : Nat} (h : MemOk M n) (t a : Int) (w : WordV) (b : Bool) : MemOk (mstoreM M t a w b).1 (n + 1) := by
 unfold mstoreM; split
 ·exact memOk_adds h _ _ _ _
 ·exact memOk_up h (by omega)
theorem memOk_swap {M : MemM} {n : Nat} (h : MemOk M n) (t a : Int) (o w : WordV) : MemOk (mswapM M t a o w).1 (n + 1) := by
 unfold mswapM; split
 ·exact memOk_adds (memOk_look h _ _) _ _ _ _
 ·exact memOk_up (memOk_look h _ _) (by omega)
theorem size_look (M : MemM) (t a : Int) : (look1M M t a).1.views.length = M.views.length ∧ (look1M M t a).1.places = M.places := by
 unfold look1M; split
 ·exact size_finds _ _ _ _ _
 ·exact ⟨rfl,rfl⟩
theorem ok_mlook_bad (M : MemM) (t a : Int) (j : Bool) (f : FuncId) (first : List Sh) (h : ¬ wrongM M t a = 0) : Ok 111 [eMem M,sI t,sI a,sB j,.fn (.func f) first []] (.tup [eMem M,.agg (eWord zWord),sI (wrongM M t a)]) := by
 refine ok_of_tr Tryz.func111 tr_mlook rfl ?_
 have hc := ok_mWrong M t a
 generalize wrongM M t a = e at h hc ⊢
 have d : (e != 0) = true := by simpa using h
 unfold evFn sc_mlook rv_mlook
 have F1 := @d
 refine eS fun _ hn1 _ _ => ?_;refine eO fun _ hk2 => ?_;refine tL F1 ?_;refine hk2 _ ?_;refine hn1 (some ([1,2,3,4,5,10,11],none)) _ ?_;refine eS fun _ _ hr3 _ => ?_;refine eS fun _ hn4 _ _ => ?_;refine eO fun _ hk5 => ?_;refine tC 1 F1 ?_;refine tS 2 F1 ?_;refine tS 1 F1 ?_;refine Or.inl (Or.inl ⟨_,hc,?_⟩);refine tL F1 ?_;refine hk5 _ ?_;refine hn4 (some ([1,2,3,4,5,10,11,13],none)) _ ?_;refine eS fun _ hn6 _ _ => ?_;refine eO fun _ hk7 => ?_;refine tZ F1 ?_;refine hk7 _ ?_;refine hn6 (some ([1,2,3,4,5,10,11,13,21],none)) _ ?_;refine eCt ?_;refine eS fun _ hn8 _ _ => ?_;refine eO fun _ hk9 => ?_;refine tC 1 F1 ?_;refine tC 3 F1 ?_;refine tC 1 F1 ?_;refine tL F1 ?_;refine hk9 _ ?_;refine hn8 (some ([10,11,12],none)) _ ?_;refine hr3 _ ?_;refine sg1 F1 ?_
 rfl
set_option maxHeartbeats 2000000 in
theorem ok_mlook (M : MemM) (t a : Int) (j : Bool) (f : FuncId) (first : List Sh) (p : Int) {n : Nat} (hM : MemOk M n) (ht : ThrB M t) (ha : PlcB M a) (hE : Enters f) (hf : Ok f (first ++ [eHist (histM M a),sI (vGet (seenM M t) a)]) (sI p)) :
  Ok 111 [eMem M,sI t,sI a,sB j,.fn (.func f) first []] (.tup [eMem (findsM M t a p j).1,.agg (eWord (findsM M t a p j).2),sI 0]) := by
 refine ok_of_tr Tryz.func111 tr_mlook rfl ?_
 have hc := ok_mWrong M t a
 rw [wrong_zero.2 ⟨ht,ha⟩] at hc
 have c4 := ok_mFinds M t a p j hM ht ha
 have hin := (plc_in hM ha).1
 generalize findsM M t a p j = R at c4 ⊢
 obtain ⟨m,rfl,hm,e,_⟩ := plc_hist ha
 unfold evFn sc_mlook rv_mlook
 have F1 := @e
 refine eS fun _ hn1 _ _ => ?_;refine eO fun _ hk2 => ?_;refine tL F1 ?_;refine hk2 _ ?_;refine hn1 (some ([1,2,3,4,5,10,11],none)) _ ?_;refine eS fun _ hn3 _ _ => ?_;refine eS fun _ hn4 _ _ => ?_;refine eO fun _ hk5 => ?_;refine tC 1 F1 ?_;refine tS 2 F1 ?_;refine tS 1 F1 ?_;refine Or.inl (Or.inl ⟨_,hc,?_⟩);refine tL F1 ?_;refine hk5 _ ?_;refine hn4 (some ([1,2,3,4,5,10,11,13],none)) _ ?_;refine eS fun _ hn6 _ _ => ?_;refine eO fun _ hk7 => ?_;refine tZ F1 ?_;refine hk7 _ ?_;refine hn6 (some ([1,2,3,4,5,10,11,13,21],none)) _ ?_;refine eCf ?_;refine hn3 (some ([1,2,3,4,5,10,11],none)) _ ?_;refine eS fun _ hn8 _ _ => ?_;refine eD [] (n := 22) fun _ hk9 => ?_;refine sq0 ?_;refine fC 1 F1 ?_;refine fC 5 F1 ?_;refine fC 2 F1 ?_;refine fC 1 F1 ?_;refine fC 1 F1 ?_;refine fS 1 F1 ?_;refine fS 1 F1 ?_;refine ⟨_,ok_mSeen M t hM.vl,?_⟩;refine fS 1 F1 ?_;refine fS 1 F1 ?_;refine ⟨_,ok_vAt _ _ hin,?_⟩
 refine fS 1 F1 ?_;refine ⟨hE,_,hf,?_⟩;refine fS 1 F1 ?_;refine fS 1 F1 ?_;refine ⟨_,c4,?_⟩;refine fL F1 ?_;refine hk9 _ ?_;refine sr0 ?_;refine tC 1 F1 ?_;refine tZ F1 ?_;refine hn8 (some ([10,11,14,15],none)) _ ?_;refine eS fun _ hn11 _ _ => ?_;refine eQ ([]) ?_ (fun _ hk12 => ?_) ?_
 rotate_left
 ·skip
  refine ⟨?_,?_⟩
  ·skip
   refine evTr_step rfl fun _ hk13 => ?_;refine sh1 F1 ?_;refine sd ?_;refine hk13 _ ?_;refine ⟨?_,?_⟩
   ·skip
    refine evTr_step rfl fun _ hk14 => ?_;refine sh1 F1 ?_;refine sd ?_;refine hk14 _ ?_;refine evTr_step rfl fun _ hk15 => ?_;refine sh1 F1 ?_;refine sd ?_;refine hk15 _ ?_;refine evTr_step rfl fun _ hk16 => ?_;refine sh1 F1 ?_;refine sd ?_;refine hk16 _ ?_;refine evTr_flo rfl fun _ hk17 => ?_;refine sh1 F1 ?_;refine hk17 _ ?_;refine hk12 _ (some ([10,11,12],none)) ?_
    exact sl0
   ·skip
    refine evTr_step rfl fun _ hk18 => ?_;refine sh1 F1 ?_;refine sd ?_;refine hk18 _ ?_;refine evTr_step rfl fun _ hk19 => ?_;refine sh1 F1 ?_;refine sd ?_;refine hk19 _ ?_;refine evTr_step rfl fun _ hk20 => ?_;refine sh1 F1 ?_;refine sd ?_;refine hk20 _ ?_;refine evTr_flo rfl fun _ hk21 => ?_;refine sh1 F1 ?_;refine hk21 _ ?_;refine hk12 _ (some ([10,11,12],none)) ?_
    exact sl0
  ·skip
   refine evTr_step rfl fun _ hk22 => ?_;refine sh1 F1 ?_;refine sd ?_;refine hk22 _ ?_;refine evTr_step rfl fun _ hk23 => ?_;refine sh1 F1 ?_;refine sd ?_;refine hk23 _ ?_;refine evTr_step rfl fun _ hk24 => ?_;refine sh1 F1 ?_;refine sd ?_;refine hk24 _ ?_;refine evTr_step rfl fun _ hk25 => ?_;refine sh1 F1 ?_;refine sd ?_;refine hk25 _ ?_;refine evTr_flo rfl fun _ hk26 => ?_;refine sh1 F1 ?_;refine hk26 _ ?_;refine hk12 _ (some ([10,11,12],none)) ?_
   exact sl0
 refine hn11 (some ([10,11,12],none)) _ ?_
 exact sf1 F1
theorem ok_mLoad (M : MemM) (t a : Int) (q : Bool) (c : Int) {n : Nat} (hM : MemOk M n) (hn : n ≤ 10000) : Ok 106 [eMem M,sI t,sI a,sB q,sI c] (.tup [eMem (loadM M t a q c).1,.agg (eWord (loadM M t a q c).2.1),sI (loadM M t a q c).2.2]) := by
 have hl := hist_len hM a
 have h : Ok 111 [eMem M,sI t,sI a,sB q,.fn (.func 113) [sI c] []] (.tup [eMem (loadM M t a q c).1,.agg (eWord (loadM M t a q c).2.1),sI (loadM M t a q c).2.2]) := by
  unfold loadM
  by_cases hw : wrongM M t a = 0
  ·rw [if_pos hw]
   obtain ⟨ht,ha⟩ := wrong_zero.1 hw
   exact ok_mlook M t a q 113 [sI c] _ hM ht ha (callFunc_enter Tryz.func113 rfl rfl) (ok_pSome _ _ c (by omega))
  ·rw [if_neg hw]
   exact ok_mlook_bad M t a q 113 [sI c] hw
 generalize loadM M t a q c = R at h ⊢
 refine ok_of_tr Tryz.func106 tr_mLoad rfl ?_
 unfold evFn sc_mLoad rv_mLoad
 refine eS fun _ hn1 _ _ => ?_;refine eO fun _ hk2 => ?_;refine tL0 ?_;refine hk2 _ ?_;refine hn1 (some ([1,2,3,4,5,10,11],none)) _ ?_;refine eS fun _ hn3 _ _ => ?_;refine eO fun _ hk4 => ?_;refine tC0 1 ?_;refine tS0 5 ?_;refine tS0 1 ?_;refine Or.inl (Or.inl ⟨_,h,?_⟩);refine tC0 4 ?_;refine tC0 1 ?_;refine tL0 ?_;refine hk4 _ ?_;refine hn3 (some ([10,11,12],none)) _ ?_
 exact sf0
theorem ok_mLook (M : MemM) (t a : Int) {n : Nat} (hM : MemOk M n) (hn : n ≤ 10000) : Ok 105 [eMem M,sI t,sI a] (.tup [eMem (look1M M t a).1,.agg (eWord (look1M M t a).2.1),sI (look1M M t a).2.2]) := by
 have hl := hist_len hM a
 have h : Ok 111 [eMem M,sI t,sI a,sB true,.fn (.func 112) [sI 0] []] (.tup [eMem (look1M M t a).1,.agg (eWord (look1M M t a).2.1),sI (look1M M t a).2.2]) := by
  unfold look1M
  by_cases hw : wrongM M t a = 0
  ·rw [if_pos hw]
   obtain ⟨ht,ha⟩ := wrong_zero.1 hw
   exact ok_mlook M t a true 112 [sI 0] _ hM ht ha (callFunc_enter Tryz.func112 rfl rfl) (ok_pLast _ _ 0 (by omega))
  ·rw [if_neg hw]
   exact ok_mlook_bad M t a true 112 [sI 0] hw
 generalize look1M M t a = R at h ⊢
 refine ok_of_tr Tryz.func105 tr_mLook rfl ?_
 unfold evFn sc_mLook rv_mLook
 refine eS fun _ hn1 _ _ => ?_;refine eO fun _ hk2 => ?_;refine tL0 ?_;refine hk2 _ ?_;refine hn1 (some ([1,2,3,6,7],none)) _ ?_;refine eS fun _ hn3 _ _ => ?_;refine eO fun _ hk4 => ?_;refine tC0 1 ?_;refine tS0 3 ?_;refine tS0 1 ?_;refine Or.inl (Or.inl ⟨_,h,?_⟩);refine tC0 4 ?_;refine tC0 1 ?_;refine tL0 ?_;refine hk4 _ ?_;refine hn3 (some ([6,7,8],none)) _ ?_
 exact sf0
theorem ok_mStore (M : MemM) (t a : Int) (w : WordV) (b : Bool) {n : Nat} (hM : MemOk M n) (hn : n ≤ 10000) : Ok 98 [eMem M,sI t,sI a,.agg (eWord w),sB b] (.tup [eMem (mstoreM M t a w b).1,sI (mstoreM M t a w b).2]) := by
 refine ok_of_tr Tryz.func98 tr_mStore rfl ?_
 unfold mstoreM
 have hc := ok_mWrong M t a
 by_cases hw : wrongM M t a = 0
 ·rw [if_pos hw]
  obtain ⟨ht,ha⟩ := wrong_zero.1 hw
  rw [hw] at hc
  have c1 := ok_mAdds M t a w b hM hn ht ha
  generalize addsM M t a w b = R at c1 ⊢
  unfold evFn sc_mStore rv_mStore
  refine eS fun K1 hn1 hr1 he1 => ?_;refine eO fun K2 hk2 => ?_;refine tL0 ?_;refine hk2 _ ?_;refine hn1 (some ([1,2,4,5,8,10],none)) _ ?_;refine eS fun K3 hn3 hr3 he3 => ?_;refine eS fun K4 hn4 hr4 he4 => ?_;refine eO fun K5 hk5 => ?_;refine tC0 1 ?_;refine tS0 2 ?_;refine tS0 1 ?_;refine Or.inl (Or.inl ⟨_,hc,?_⟩);refine tL0 ?_;refine hk5 _ ?_;refine hn4 (some ([1,2,4,5,8,10,12],none)) _ ?_;refine eS fun K6 hn6 hr6 he6 => ?_;refine eO fun K7 hk7 => ?_;refine tZ0 ?_;refine hk7 _ ?_;refine hn6 (some ([1,2,4,5,8,10,12,18],none)) _ ?_;refine eCf ?_;refine hn3 (some ([1,2,4,5,8,10],none)) _ ?_;refine eS fun K8 hn8 hr8 he8 => ?_;refine eO fun K9 hk9 => ?_;refine tC0 1 ?_;refine tC0 3 ?_;refine tS0 1 ?_;refine tS0 1 ?_;refine Or.inl (Or.inl ⟨_,c1,?_⟩);refine tC0 1 ?_;refine tL0 ?_;refine hk9 _ ?_;refine hn8 (some ([10,11],none)) _ ?_
  exact sf0
 ·rw [if_neg hw]
  generalize wrongM M t a = e at hw hc ⊢
  have d : (e != 0) = true := by simpa using hw
  unfold evFn sc_mStore rv_mStore
  have F1 := @d
  refine eS fun K1 hn1 hr1 he1 => ?_;refine eO fun K2 hk2 => ?_;refine tL F1 ?_;refine hk2 _ ?_;refine hn1 (some ([1,2,4,5,8,10],none)) _ ?_;refine eS fun K3 hn3 hr3 he3 => ?_;refine eS fun K4 hn4 hr4 he4 => ?_;refine eO fun K5 hk5 => ?_;refine tC 1 F1 ?_;refine tS 2 F1 ?_;refine tS 1 F1 ?_;refine Or.inl (Or.inl ⟨_,hc,?_⟩);refine tL F1 ?_;refine hk5 _ ?_;refine hn4 (some ([1,2,4,5,8,10,12],none)) _ ?_;refine eS fun K6 hn6 hr6 he6 => ?_;refine eO fun K7 hk7 => ?_;refine tZ F1 ?_;refine hk7 _ ?_;refine hn6 (some ([1,2,4,5,8,10,12,18],none)) _ ?_;refine eCt ?_;refine eS fun K8 hn8 hr8 he8 => ?_;refine eO fun K9 hk9 => ?_;refine tC 1 F1 ?_;refine tC 2 F1 ?_;refine tL F1 ?_;refine hk9 _ ?_;refine hn8 (some ([10,11],none)) _ ?_;refine hr3 _ ?_
  exact sf1 F1
set_option maxHeartbeats 2000000 in
theorem ok_mSwap (M : MemM) (t a : Int) (o w : WordV) {n : Nat} (hM : MemOk M n) (hn : n ≤ 10000) : Ok 97 [eMem M,sI t,sI a,.agg (eWord o),.agg (eWord w)] (.tup [eMem (mswapM M t a o w).1,.agg (eWord (mswapM M t a o w).2.1),sB (mswapM M t a o w).2.2.1,sI (mswapM M t a o w).2.2.2]) := by
 refine ok_of_tr Tryz.func97 tr_mSwap rfl ?_
 have c0 := ok_mLook M t a hM hn
 have hMl := memOk_look hM t a
 obtain ⟨s1,s2⟩ := size_look M t a
 unfold mswapM
 by_cases hw : wrongM M t a = 0
 ·obtain ⟨ht,ha⟩ := wrong_zero.1 hw
  have e3 : (look1M M t a).2.2 = 0 := by unfold look1M; rw [if_pos hw]
  rw [e3] at c0
  have ht' : ThrB (look1M M t a).1 t := by unfold ThrB; rw [s1]; exact ht
  have ha' : PlcB (look1M M t a).1 a := by unfold PlcB; rw [s2]; exact ha
  have c1 := ok_mAdds (look1M M t a).1 t a w true hMl hn ht' ha'
  rw [e3]
  by_cases he : weq (look1M M t a).2.1 o = true
  ·rw [if_pos ⟨hw,he⟩]
   have hE : EqSh 79 (.agg (eWord (look1M M t a).2.1)) (.agg (eWord o)) true := by rw [← he]; exact eqsh_word _ _
   generalize addsM (look1M M t a).1 t a w true = R at c1 ⊢
   generalize look1M M t a = Q at c0 c1 hE ⊢
   unfold evFn sc_mSwap rv_mSwap
   refine eS fun K1 hn1 hr1 he1 => ?_;refine eO fun K2 hk2 => ?_;refine tL0 ?_;refine hk2 _ ?_;refine hn1 (some ([1,2,5,8,9,10,11],none)) _ ?_;refine eS fun K3 hn3 hr3 he3 => ?_;refine eO fun K4 hk4 => ?_;refine tC0 1 ?_;refine tS0 2 ?_;refine tS0 1 ?_;refine Or.inl (Or.inl ⟨_,c0,?_⟩);refine tC0 7 ?_;refine tC0 1 ?_;refine tL0 ?_;refine hk4 _ ?_;refine hn3 (some ([1,2,8,9,10,11,14,15,16],none)) _ ?_;refine eS fun K5 hn5 hr5 he5 => ?_;refine eS fun K6 hn6 hr6 he6 => ?_;refine eO fun K7 hk7 => ?_;refine tC0 2 ?_;refine tC0 2 ?_;refine tC0 1 ?_;refine tS0 1 ?_;refine Or.inl ⟨_,hE,?_⟩;refine tL0 ?_;refine hk7 _ ?_;refine hn6 (some ([1,2,9,10,11,14,15,16,31],none)) _ ?_;refine eCf ?_;refine hn5 (some ([1,2,9,10,11,14,15],none)) _ ?_;refine eS fun K8 hn8 hr8 he8 => ?_;refine eQ ([]) ?_ (fun K9 hk9 => ?_) ?_
   rotate_left
   ·skip
    refine evTr_flo rfl fun K10 hk10 => ?_;refine sh0 ?_;refine hk10 _ ?_;refine evTr_flo rfl fun K11 hk11 => ?_;refine sh0 ?_;refine hk11 _ ?_;refine ⟨?_,?_⟩
    ·skip
     refine ⟨?_,?_⟩
     ·skip
      refine evTr_step rfl fun K12 hk12 => ?_;refine sh0 ?_;refine sd ?_;refine hk12 _ ?_;refine ⟨?_,?_⟩
      ·skip
       refine evTr_step rfl fun K13 hk13 => ?_;refine sh0 ?_;refine sd ?_;refine hk13 _ ?_;refine ⟨?_,?_⟩
       ·skip
        refine evTr_step rfl fun K14 hk14 => ?_;refine sh0 ?_;refine Or.inl (Or.inl ⟨_,c1,?_⟩);refine hk14 _ ?_;refine ⟨?_,?_⟩
        ·skip
         refine evTr_step rfl fun K15 hk15 => ?_;refine sh0 ?_;refine sd ?_;refine hk15 _ ?_;refine evTr_step rfl fun K16 hk16 => ?_;refine sh0 ?_;refine sd ?_;refine hk16 _ ?_;refine evTr_step rfl fun K17 hk17 => ?_;refine sh0 ?_;refine sd ?_;refine hk17 _ ?_;refine evTr_flo rfl fun K18 hk18 => ?_;refine sh0 ?_;refine hk18 _ ?_;refine evTr_flo rfl fun K19 hk19 => ?_;refine sh0 ?_;refine hk19 _ ?_;refine hk9 _ (some ([10,11,12,13],none)) ?_
         exact sl0
        ·skip
         refine evTr_step rfl fun K20 hk20 => ?_;refine sh0 ?_;refine sd ?_;refine hk20 _ ?_;refine evTr_step rfl fun K21 hk21 => ?_;refine sh0 ?_;refine sd ?_;refine hk21 _ ?_;refine evTr_step rfl fun K22 hk22 => ?_;refine sh0 ?_;refine sd ?_;refine hk22 _ ?_;refine evTr_flo rfl fun K23 hk23 => ?_;refine sh0 ?_;refine hk23 _ ?_;refine evTr_flo rfl fun K24 hk24 => ?_;refine sh0 ?_;refine hk24 _ ?_;refine hk9 _ (some ([10,11,12,13],none)) ?_
         exact sl0
       ·skip
        refine evTr_step rfl fun K25 hk25 => ?_;refine sh0 ?_;refine sd ?_;refine hk25 _ ?_;refine evTr_step rfl fun K26 hk26 => ?_;refine sh0 ?_;refine Or.inl (Or.inl ⟨_,c1,?_⟩);refine hk26 _ ?_;refine evTr_step rfl fun K27 hk27 => ?_;refine sh0 ?_;refine sd ?_;refine hk27 _ ?_;refine evTr_step rfl fun _ hk28 => ?_;refine sh0 ?_;refine sd ?_;refine hk28 _ ?_;refine evTr_flo rfl fun _ hk29 => ?_;refine sh0 ?_;refine hk29 _ ?_;refine evTr_flo rfl fun _ hk30 => ?_;refine sh0 ?_;refine hk30 _ ?_;refine hk9 _ (some ([10,11,12,13],none)) ?_
        exact sl0
      ·skip
       refine evTr_step rfl fun _ hk31 => ?_;refine sh0 ?_;refine sd ?_;refine hk31 _ ?_;refine evTr_step rfl fun _ hk32 => ?_;refine sh0 ?_;refine sd ?_;refine hk32 _ ?_;refine evTr_step rfl fun _ hk33 => ?_;refine sh0 ?_;refine Or.inl (Or.inl ⟨_,c1,?_⟩);refine hk33 _ ?_;refine evTr_step rfl fun _ hk34 => ?_;refine sh0 ?_;refine sd ?_;refine hk34 _ ?_;refine evTr_step rfl fun _ hk35 => ?_;refine sh0 ?_;refine sd ?_;refine hk35 _ ?_;refine evTr_flo rfl fun _ hk36 => ?_;refine sh0 ?_;refine hk36 _ ?_;refine evTr_flo rfl fun _ hk37 => ?_;refine sh0 ?_;refine hk37 _ ?_;refine hk9 _ (some ([10,11,12,13],none)) ?_
       exact sl0
     ·skip
      refine evTr_step rfl fun _ hk38 => ?_;refine sh0 ?_;refine sd ?_;refine hk38 _ ?_;refine ⟨?_,?_⟩
      ·skip
       refine evTr_step rfl fun _ hk39 => ?_;refine sh0 ?_;refine sd ?_;refine hk39 _ ?_;refine ⟨?_,?_⟩
       ·skip
        refine evTr_step rfl fun _ hk40 => ?_;refine sh0 ?_;refine Or.inl (Or.inl ⟨_,c1,?_⟩);refine hk40 _ ?_;refine ⟨?_,?_⟩
        ·skip
         refine evTr_step rfl fun _ hk41 => ?_;refine sh0 ?_;refine sd ?_;refine hk41 _ ?_;refine evTr_step rfl fun _ hk42 => ?_;refine sh0 ?_;refine sd ?_;refine hk42 _ ?_;refine evTr_step rfl fun _ hk43 => ?_;refine sh0 ?_;refine sd ?_;refine hk43 _ ?_;refine evTr_flo rfl fun _ hk44 => ?_;refine sh0 ?_;refine hk44 _ ?_;refine evTr_flo rfl fun _ hk45 => ?_;refine sh0 ?_;refine hk45 _ ?_;refine hk9 _ (some ([10,11,12,13],none)) ?_
         exact sl0
        ·skip
         refine evTr_step rfl fun _ hk46 => ?_;refine sh0 ?_;refine sd ?_;refine hk46 _ ?_;refine evTr_step rfl fun _ hk47 => ?_;refine sh0 ?_;refine sd ?_;refine hk47 _ ?_;refine evTr_step rfl fun _ hk48 => ?_;refine sh0 ?_;refine sd ?_;refine hk48 _ ?_;refine evTr_flo rfl fun _ hk49 => ?_;refine sh0 ?_;refine hk49 _ ?_;refine evTr_flo rfl fun _ hk50 => ?_;refine sh0 ?_;refine hk50 _ ?_;refine hk9 _ (some ([10,11,12,13],none)) ?_
         exact sl0
       ·skip
        refine evTr_step rfl fun _ hk51 => ?_;refine sh0 ?_;refine sd ?_;refine hk51 _ ?_;refine evTr_step rfl fun _ hk52 => ?_;refine sh0 ?_;refine Or.inl (Or.inl ⟨_,c1,?_⟩);refine hk52 _ ?_;refine evTr_step rfl fun _ hk53 => ?_;refine sh0 ?_;refine sd ?_;refine hk53 _ ?_;refine evTr_step rfl fun _ hk54 => ?_;refine sh0 ?_;refine sd ?_;refine hk54 _ ?_;refine evTr_flo rfl fun _ hk55 => ?_;refine sh0 ?_;refine hk55 _ ?_;refine evTr_flo rfl fun _ hk56 => ?_;refine sh0 ?_;refine hk56 _ ?_;refine hk9 _ (some ([10,11,12,13],none)) ?_
        exact sl0
      ·skip
       refine evTr_step rfl fun _ hk57 => ?_;refine sh0 ?_;refine sd ?_;refine hk57 _ ?_;refine evTr_step rfl fun _ hk58 => ?_;refine sh0 ?_;refine sd ?_;refine hk58 _ ?_;refine evTr_step rfl fun _ hk59 => ?_;refine sh0 ?_;refine Or.inl (Or.inl ⟨_,c1,?_⟩);refine hk59 _ ?_;refine evTr_step rfl fun _ hk60 => ?_;refine sh0 ?_;refine sd ?_;refine hk60 _ ?_;refine evTr_step rfl fun _ hk61 => ?_;refine sh0 ?_;refine sd ?_;refine hk61 _ ?_;refine evTr_flo rfl fun _ hk62 => ?_;refine sh0 ?_;refine hk62 _ ?_;refine evTr_flo rfl fun _ hk63 => ?_;refine sh0 ?_;refine hk63 _ ?_;refine hk9 _ (some ([10,11,12,13],none)) ?_
       exact sl0
    ·skip
     refine evTr_step rfl fun _ hk64 => ?_;refine sh0 ?_;refine sd ?_;refine hk64 _ ?_;refine ⟨?_,?_⟩
     ·skip
      refine evTr_step rfl fun _ hk65 => ?_;refine sh0 ?_;refine sd ?_;refine hk65 _ ?_;refine evTr_step rfl fun _ hk66 => ?_;refine sh0 ?_;refine sd ?_;refine hk66 _ ?_;refine evTr_step rfl fun _ hk67 => ?_;refine sh0 ?_;refine Or.inl (Or.inl ⟨_,c1,?_⟩);refine hk67 _ ?_;refine evTr_step rfl fun _ hk68 => ?_;refine sh0 ?_;refine sd ?_;refine hk68 _ ?_;refine evTr_step rfl fun _ hk69 => ?_;refine sh0 ?_;refine sd ?_;refine hk69 _ ?_;refine evTr_flo rfl fun _ hk70 => ?_;refine sh0 ?_;refine hk70 _ ?_;refine evTr_flo rfl fun _ hk71 => ?_;refine sh0 ?_;refine hk71 _ ?_;refine hk9 _ (some ([10,11,12,13],none)) ?_
      exact sl0
     ·skip
      refine evTr_step rfl fun _ hk72 => ?_;refine sh0 ?_;refine sd ?_;refine hk72 _ ?_;refine evTr_step rfl fun _ hk73 => ?_;refine sh0 ?_;refine sd ?_;refine hk73 _ ?_;refine evTr_step rfl fun _ hk74 => ?_;refine sh0 ?_;refine Or.inl (Or.inl ⟨_,c1,?_⟩);refine hk74 _ ?_;refine evTr_step rfl fun _ hk75 => ?_;refine sh0 ?_;refine sd ?_;refine hk75 _ ?_;refine evTr_step rfl fun _ hk76 => ?_;refine sh0 ?_;refine sd ?_;refine hk76 _ ?_;refine evTr_flo rfl fun _ hk77 => ?_;refine sh0 ?_;refine hk77 _ ?_;refine evTr_flo rfl fun _ hk78 => ?_;refine sh0 ?_;refine hk78 _ ?_;refine hk9 _ (some ([10,11,12,13],none)) ?_
      exact sl0
   refine hn8 (some ([10,11,12,13],none)) _ ?_
   exact sf0
  ·rw [if_neg (fun h => he h.2)]
   have he' : weq (look1M M t a).2.1 o = false := by simpa using he
   have hE : EqSh 79 (.agg (eWord (look1M M t a).2.1)) (.agg (eWord o)) false := by rw [← he']; exact eqsh_word _ _
   clear c1
   generalize look1M M t a = Q at c0 hE ⊢
   unfold evFn sc_mSwap rv_mSwap
   refine eS fun K1 hn1 hr1 he1 => ?_;refine eO fun K2 hk2 => ?_;refine tL0 ?_;refine hk2 _ ?_;refine hn1 (some ([1,2,5,8,9,10,11],none)) _ ?_;refine eS fun K3 hn3 hr3 he3 => ?_;refine eO fun K4 hk4 => ?_;refine tC0 1 ?_;refine tS0 2 ?_;refine tS0 1 ?_;refine Or.inl (Or.inl ⟨_,c0,?_⟩);refine tC0 7 ?_;refine tC0 1 ?_;refine tL0 ?_;refine hk4 _ ?_;refine hn3 (some ([1,2,8,9,10,11,14,15,16],none)) _ ?_;refine eS fun K5 hn5 hr5 he5 => ?_;refine eS fun K6 hn6 hr6 he6 => ?_;refine eO fun K7 hk7 => ?_;refine tC0 2 ?_;refine tC0 2 ?_;refine tC0 1 ?_;refine tS0 1 ?_;refine Or.inl ⟨_,hE,?_⟩;refine tL0 ?_;refine hk7 _ ?_;refine hn6 (some ([1,2,9,10,11,14,15,16,31],none)) _ ?_;refine eCt ?_;refine eS fun K8 hn8 hr8 he8 => ?_;refine eQ ([]) ?_ (fun K9 hk9 => ?_) ?_
   rotate_left
   ·skip
    refine evTr_flo rfl fun K10 hk10 => ?_;refine sh0 ?_;refine hk10 _ ?_;refine ⟨?_,?_⟩
    ·skip
     refine evTr_step rfl fun K11 hk11 => ?_;refine sh0 ?_;refine sd ?_;refine hk11 _ ?_;refine ⟨?_,?_⟩
     ·skip
      refine evTr_step rfl fun K12 hk12 => ?_;refine sh0 ?_;refine sd ?_;refine hk12 _ ?_;refine evTr_step rfl fun K13 hk13 => ?_;refine sh0 ?_;refine sd ?_;refine hk13 _ ?_;refine evTr_step rfl fun K14 hk14 => ?_;refine sh0 ?_;refine sd ?_;refine hk14 _ ?_;refine evTr_flo rfl fun K15 hk15 => ?_;refine sh0 ?_;refine hk15 _ ?_;refine evTr_flo rfl fun K16 hk16 => ?_;refine sh0 ?_;refine hk16 _ ?_;refine hk9 _ (some ([10,11,12,13],none)) ?_
      exact sl0
     ·skip
      refine evTr_step rfl fun K17 hk17 => ?_;refine sh0 ?_;refine sd ?_;refine hk17 _ ?_;refine evTr_step rfl fun K18 hk18 => ?_;refine sh0 ?_;refine sd ?_;refine hk18 _ ?_;refine evTr_step rfl fun K19 hk19 => ?_;refine sh0 ?_;refine sd ?_;refine hk19 _ ?_;refine evTr_flo rfl fun K20 hk20 => ?_;refine sh0 ?_;refine hk20 _ ?_;refine evTr_flo rfl fun K21 hk21 => ?_;refine sh0 ?_;refine hk21 _ ?_;refine hk9 _ (some ([10,11,12,13],none)) ?_
      exact sl0
    ·skip
     refine evTr_step rfl fun K22 hk22 => ?_;refine sh0 ?_;refine sd ?_;refine hk22 _ ?_;refine evTr_step rfl fun K23 hk23 => ?_;refine sh0 ?_;refine sd ?_;refine hk23 _ ?_;refine evTr_step rfl fun K24 hk24 => ?_;refine sh0 ?_;refine sd ?_;refine hk24 _ ?_;refine evTr_step rfl fun K25 hk25 => ?_;refine sh0 ?_;refine sd ?_;refine hk25 _ ?_;refine evTr_flo rfl fun K26 hk26 => ?_;refine sh0 ?_;refine hk26 _ ?_;refine evTr_flo rfl fun K27 hk27 => ?_;refine sh0 ?_;refine hk27 _ ?_;refine hk9 _ (some ([10,11,12,13],none)) ?_
     exact sl0
   refine hn8 (some ([10,11,12,13],none)) _ ?_;refine hr5 _ ?_
   exact sf0
 ·rw [if_neg (fun h => hw h.1)]
  have e3 : (look1M M t a).2.2 = wrongM M t a := by unfold look1M; rw [if_neg hw]
  rw [← e3] at hw
  clear hMl s1 s2 e3
  generalize look1M M t a = Q at c0 hw ⊢
  have d : (Q.2.2 != 0) = true := by simpa using hw
  unfold evFn sc_mSwap rv_mSwap
  have F1 := @d
  refine eS fun K1 hn1 hr1 he1 => ?_;refine eO fun K2 hk2 => ?_;refine tL F1 ?_;refine hk2 _ ?_;refine hn1 (some ([1,2,5,8,9,10,11],none)) _ ?_;refine eS fun K3 hn3 hr3 he3 => ?_;refine eO fun K4 hk4 => ?_;refine tC 1 F1 ?_;refine tS 2 F1 ?_;refine tS 1 F1 ?_;refine Or.inl (Or.inl ⟨_,c0,?_⟩);refine tC 7 F1 ?_;refine tC 1 F1 ?_;refine tL F1 ?_;refine hk4 _ ?_;refine hn3 (some ([1,2,8,9,10,11,14,15,16],none)) _ ?_;refine eS fun K5 hn5 hr5 he5 => ?_;refine eS fun K6 hn6 hr6 he6 => ?_;refine eO fun K7 hk7 => ?_;refine tC 2 F1 ?_;refine tC 2 F1 ?_;refine tC 1 F1 ?_;refine tS 1 F1 ?_
  skip
  refine tL F1 ?_;refine hk7 _ ?_;refine hn6 (some ([1,2,9,10,11,14,15,16,31],none)) _ ?_;refine eCt ?_;refine eS fun K8 hn8 hr8 he8 => ?_;refine eQ ([]) ?_ (fun K9 hk9 => ?_) ?_
  rotate_left
  ·skip
   refine evTr_flo rfl fun K10 hk10 => ?_;refine sh1 F1 ?_;refine hk10 _ ?_;refine ⟨?_,?_⟩
   ·skip
    refine evTr_step rfl fun K11 hk11 => ?_;refine sh1 F1 ?_;refine sd ?_;refine hk11 _ ?_;refine ⟨?_,?_⟩
    ·skip
     refine evTr_step rfl fun K12 hk12 => ?_;refine sh1 F1 ?_;refine sd ?_;refine hk12 _ ?_;refine evTr_step rfl fun K13 hk13 => ?_;refine sh1 F1 ?_;refine sd ?_;refine hk13 _ ?_;refine evTr_step rfl fun K14 hk14 => ?_;refine sh1 F1 ?_;refine sd ?_;refine hk14 _ ?_;refine evTr_flo rfl fun K15 hk15 => ?_;refine sh1 F1 ?_;refine hk15 _ ?_;refine evTr_flo rfl fun K16 hk16 => ?_;refine sh1 F1 ?_;refine hk16 _ ?_;refine hk9 _ (some ([10,11,12,13],none)) ?_
     exact sl0
    ·skip
     refine evTr_step rfl fun K17 hk17 => ?_;refine sh1 F1 ?_;refine sd ?_;refine hk17 _ ?_;refine evTr_step rfl fun K18 hk18 => ?_;refine sh1 F1 ?_;refine sd ?_;refine hk18 _ ?_;refine evTr_step rfl fun K19 hk19 => ?_;refine sh1 F1 ?_;refine sd ?_;refine hk19 _ ?_;refine evTr_flo rfl fun K20 hk20 => ?_;refine sh1 F1 ?_;refine hk20 _ ?_;refine evTr_flo rfl fun K21 hk21 => ?_;refine sh1 F1 ?_;refine hk21 _ ?_;refine hk9 _ (some ([10,11,12,13],none)) ?_
     exact sl0
   ·skip
    refine evTr_step rfl fun K22 hk22 => ?_;refine sh1 F1 ?_;refine sd ?_;refine hk22 _ ?_;refine evTr_step rfl fun K23 hk23 => ?_;refine sh1 F1 ?_;refine sd ?_;refine hk23 _ ?_;refine evTr_step rfl fun K24 hk24 => ?_;refine sh1 F1 ?_;refine sd ?_;refine hk24 _ ?_;refine evTr_step rfl fun K25 hk25 => ?_;refine sh1 F1 ?_;refine sd ?_;refine hk25 _ ?_;refine evTr_flo rfl fun K26 hk26 => ?_;refine sh1 F1 ?_;refine hk26 _ ?_;refine evTr_flo rfl fun K27 hk27 => ?_;refine sh1 F1 ?_;refine hk27 _ ?_;refine hk9 _ (some ([10,11,12,13],none)) ?_
    exact sl0
  refine hn8 (some ([10,11,12,13],none)) _ ?_;refine hr5 _ ?_
  exact sf1 F1
end Go.Proofs.YtkmbcjnaaokilaaGreatDoor
