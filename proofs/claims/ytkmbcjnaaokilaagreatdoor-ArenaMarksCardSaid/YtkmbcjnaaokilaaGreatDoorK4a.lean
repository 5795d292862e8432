/-
  Layer 4 by shadows: the memory, its small functions.
-/
import Derived.Test.YtkmbcjnaaokilaaGreatDoorMK13
import Derived.Test.YtkmbcjnaaokilaaGreatDoorMC
namespace Go.Proofs.YtkmbcjnaaokilaaGreatDoor
set_option linter.unusedSimpArgs false
set_option linter.unusedVariables false
open Go.RowKit Go.Maps
structure MemM where
 places : List (List MsgV)
 views : List ViewV
abbrev eV1 (f : ViewV) : List Sh := [eVm f]
abbrev eMem (M : MemM) : Sh := .agg [.sl 1 0 (M.places.map ePlace),.sl 1 0 (M.views.map eV1)]
structure MemOk (M : MemM) (n : Nat) : Prop where
 pl : M.places.length ≤ 4096
 vl : M.views.length ≤ 8
 one : ∀ h ∈ M.places,0 < h.length
 most : ∀ h ∈ M.places,h.length ≤ n
 msgs : ∀ h ∈ M.places,∀ m ∈ h,ViewOk m.view
 views : ∀ v ∈ M.views,ViewOk v
def ThrB (M : MemM) (t : Int) : Prop := 1 ≤ t ∧ t ≤ (M.views.length : Int)
def PlcB (M : MemM) (a : Int) : Prop := 0 ≤ a ∧ a < (M.places.length : Int)
instance (M : MemM) (t : Int) : Decidable (ThrB M t) := by unfold ThrB; infer_instance
instance (M : MemM) (t : Int) : Decidable (PlcB M t) := by unfold PlcB; infer_instance
def wrongM (M : MemM) (t a : Int) : Int := if ¬ ThrB M t then 3 else if ¬ PlcB M a then 1 else 0
def seenM (M : MemM) (t : Int) : ViewV := if 1 ≤ t then (M.views[(t - 1).toNat]?).getD fun _ => none else fun _ => none
def histM (M : MemM) (a : Int) : List MsgV := if 0 ≤ a then (M.places[a.toNat]?).getD [] else []
def withM (M : MemM) (t : Int) (v : ViewV) : MemM := { M with views := M.views.set (t - 1).toNat v }
noncomputable def findsM (M : MemM) (t a i : Int) (j : Bool) : MemM × WordV :=
 (withM M t (if j = true then vJoin (vWith (seenM M t) a i) (atM (histM M a) i).view else vWith (seenM M t) a i),(atM (histM M a) i).word)
def toldM (M : MemM) (t a : Int) (whole : Bool) : ViewV := if whole = true then vWith (seenM M t) a (histM M a).length else vWith (fun _ => none) a (histM M a).length
def addsM (M : MemM) (t a : Int) (w : WordV) (whole : Bool) : MemM :=
 withM { M with places := M.places.set a.toNat (histM M a ++ [⟨w,t,toldM M t a whole⟩]) } t (vWith (seenM M t) a (histM M a).length)
noncomputable def loadM (M : MemM) (t a : Int) (acq : Bool) (c : Int) : MemM × WordV × Int :=
 if wrongM M t a = 0 then ((findsM M t a (chooseF (histM M a).length (vGet (seenM M t) a) c) acq).1,(findsM M t a (chooseF (histM M a).length (vGet (seenM M t) a) c) acq).2,0) else (M,zWord,wrongM M t a)
noncomputable def look1M (M : MemM) (t a : Int) : MemM × WordV × Int :=
 if wrongM M t a = 0 then ((findsM M t a ((histM M a).length - 1) true).1,(findsM M t a ((histM M a).length - 1) true).2,0) else (M,zWord,wrongM M t a)
def mstoreM (M : MemM) (t a : Int) (w : WordV) (rel : Bool) : MemM × Int :=
 if wrongM M t a = 0 then (addsM M t a w rel,0) else (M,wrongM M t a)
def weq (a b : WordV) : Bool := a.val == b.val && (a.ver == b.ver && a.ref == b.ref)
theorem weq_iff {a b : WordV} : weq a b = true ↔ a = b := by
 cases a; cases b; simp [weq]
theorem weq_self (a : WordV) : weq a a = true := weq_iff.2 rfl
noncomputable def mswapM (M : MemM) (t a : Int) (old new : WordV) : MemM × WordV × Bool × Int :=
 if wrongM M t a = 0 ∧ weq (look1M M t a).2.1 old = true then (addsM (look1M M t a).1 t a new true,(look1M M t a).2.1,true,0) else ((look1M M t a).1,(look1M M t a).2.1,false,(look1M M t a).2.2)
theorem plc_hist {M : MemM} {a : Int} (h : PlcB M a) : ∃ m : Nat,a = (m : Int) ∧ m < M.places.length ∧ M.places[m]? = some (histM M a) ∧ histM M a ∈ M.places := by
 obtain ⟨m,rfl⟩ := Int.eq_ofNat_of_zero_le h.1
 have hm : m < M.places.length := by have := h.2; omega
 have e : M.places[m]? = some (histM M m) := by
  unfold histM
  rw [if_pos (by omega),Int.toNat_natCast,List.getElem?_eq_getElem hm]; rfl
 exact ⟨m,rfl,hm,e,List.mem_of_getElem? e⟩
theorem thr_seen {M : MemM} {t : Int} (h : ThrB M t) : ∃ m : Nat,t = (m : Int) + 1 ∧ m < M.views.length ∧ M.views[m]? = some (seenM M t) ∧ seenM M t ∈ M.views := by
 obtain ⟨h1,h2⟩ := h
 obtain ⟨m,hm⟩ := Int.eq_ofNat_of_zero_le (show 0 ≤ t - 1 by omega)
 have hl : m < M.views.length := by omega
 have e : M.views[m]? = some (seenM M t) := by
  unfold seenM
  rw [if_pos h1,hm,Int.toNat_natCast,List.getElem?_eq_getElem hl]; rfl
 exact ⟨m,by omega,hl,e,List.mem_of_getElem? e⟩
theorem seen_ok {M : MemM} {n : Nat} (hM : MemOk M n) (t : Int) : ViewOk (seenM M t) := by
 unfold seenM
 split
 ·cases e : M.views[(t - 1).toNat]? with
  | none => exact viewOk_none
  | some v => exact hM.views v (List.mem_of_getElem? e)
 ·exact viewOk_none
theorem plc_in {M : MemM} {n : Nat} (hM : MemOk M n) {a : Int} (h : PlcB M a) : InLoc a ∧ 0 ≤ a ∧ a < 4096 := by
 have := hM.pl
 obtain ⟨h1,h2⟩ := h
 exact ⟨⟨by omega,by omega⟩,by omega,by omega⟩
theorem wrong_zero {M : MemM} {t a : Int} : wrongM M t a = 0 ↔ ThrB M t ∧ PlcB M a := by
 unfold wrongM
 by_cases h1 : ThrB M t <;> by_cases h2 : PlcB M a <;> simp [h1,h2]
theorem ok_mSize (M : MemM) : Ok 68 [eMem M] (.tup [sI M.views.length,sI M.places.length]) := by
 refine ok_of_tr Tryz.func68 tr_mSize rfl ?_
 unfold evFn sc_mSize rv_mSize
 refine eS fun _ hn1 _ _ => ?_;refine eO fun _ hk2 => ?_;refine tL0 ?_;refine hk2 _ ?_;refine hn1 (some ([1],none)) _ ?_;refine eS fun _ hn3 _ _ => ?_;refine eD [] (n := 7) fun _ hk4 => ?_;refine sq0 ?_;refine fC0 2 ?_;refine fC0 3 ?_;refine fL0 ?_;refine hk4 _ ?_;refine sr0 ?_;refine tL0 ?_;refine hn3 (some ([2,3],none)) _ ?_
 exact sf0
theorem ok_mThread (M : MemM) (t : Int) : Ok 119 [eMem M,sI t] (sB (decide (ThrB M t))) := by
 refine ok_of_tr Tryz.func119 tr_mThread rfl ?_
 unfold ThrB
 by_cases h1 : 1 ≤ t <;> by_cases h2 : t ≤ (M.views.length : Int)
 all_goals
  unfold evFn sc_mThread rv_mThread
  have F1 := And.intro @h1 @h2
  refine eS fun _ hn1 _ _ => ?_;refine eO fun _ hk2 => ?_;refine tL F1 ?_;refine hk2 _ ?_;refine hn1 (some ([1,2],none)) _ ?_;refine eS fun _ hn3 _ _ => ?_;refine eO fun _ hk4 => ?_;refine tC 2 F1 ?_;refine tC 4 F1 ?_;refine tC 2 F1 ?_;refine tL F1 ?_;refine hk4 _ ?_;refine hn3 (some ([4],none)) _ ?_
  exact sf1 F1
theorem ok_mPlace (M : MemM) (t : Int) : Ok 95 [eMem M,sI t] (sB (decide (PlcB M t))) := by
 refine ok_of_tr Tryz.func95 tr_mPlace rfl ?_
 unfold PlcB
 by_cases h1 : 0 ≤ t <;> by_cases h2 : t < (M.places.length : Int)
 all_goals
  unfold evFn sc_mPlace rv_mPlace
  have F1 := And.intro @h1 @h2
  refine eS fun _ hn1 _ _ => ?_;refine eO fun _ hk2 => ?_;refine tL F1 ?_;refine hk2 _ ?_;refine hn1 (some ([1,2],none)) _ ?_;refine eS fun _ hn3 _ _ => ?_;refine eO fun _ hk4 => ?_;refine tC 2 F1 ?_;refine tC 4 F1 ?_;refine tC 2 F1 ?_;refine tL F1 ?_;refine hk4 _ ?_;refine hn3 (some ([4],none)) _ ?_
  exact sf1 F1
theorem ok_mWrong (M : MemM) (t a : Int) : Ok 108 [eMem M,sI t,sI a] (sI (wrongM M t a)) := by
 refine ok_of_tr Tryz.func108 tr_mWrong rfl ?_
 unfold wrongM
 by_cases h1 : ThrB M t
 ·have d1 : decide (ThrB M t) = true := decide_eq_true h1
  rw [if_neg (Decidable.not_not.2 h1)]
  by_cases h2 : PlcB M a
  ·have d2 : decide (PlcB M a) = true := decide_eq_true h2
   rw [if_neg (Decidable.not_not.2 h2)]
   unfold evFn sc_mWrong rv_mWrong
   have F1 := And.intro @d1 @d2
   refine eS fun K1 hn1 hr1 he1 => ?_;refine eO fun K2 hk2 => ?_;refine tL F1 ?_;refine hk2 _ ?_;refine hn1 (some ([1,2,3],none)) _ ?_;refine eS fun K3 hn3 hr3 he3 => ?_;refine eB fun K4 hn4 hx4 hr4 he4 => ?_;refine eS fun K5 hn5 hr5 he5 => ?_;refine eO fun K6 hk6 => ?_;refine tC 1 F1 ?_;refine tS 1 F1 ?_;refine tS 1 F1 ?_;refine Or.inl (Or.inl ⟨_,ok_mThread M t,?_⟩);refine tL F1 ?_;refine hk6 _ ?_;refine hn5 (some ([2,3,7],none)) _ ?_;refine eCf ?_;refine eS fun K7 hn7 hr7 he7 => ?_;refine eO fun K8 hk8 => ?_;refine tC 1 F1 ?_;refine tS 1 F1 ?_;refine tS 1 F1 ?_;refine Or.inl (Or.inl ⟨_,ok_mPlace M a,?_⟩);refine tL F1 ?_;refine hk8 _ ?_;refine hn7 (some ([12],none)) _ ?_;refine eCf ?_;refine hn4 _ ?_;refine hn3 (some ([],none)) _ ?_;refine eS fun K9 hn9 hr9 he9 => ?_;refine eO fun K10 hk10 => ?_;refine tL F1 ?_;refine hk10 _ ?_;refine hn9 (some ([6],none)) _ ?_
   exact sf1 F1
  ·have d2 : decide (PlcB M a) = false := decide_eq_false h2
   rw [if_pos h2]
   unfold evFn sc_mWrong rv_mWrong
   have F1 := And.intro @d1 @d2
   refine eS fun K1 hn1 hr1 he1 => ?_;refine eO fun K2 hk2 => ?_;refine tL F1 ?_;refine hk2 _ ?_;refine hn1 (some ([1,2,3],none)) _ ?_;refine eS fun K3 hn3 hr3 he3 => ?_;refine eB fun K4 hn4 hx4 hr4 he4 => ?_;refine eS fun K5 hn5 hr5 he5 => ?_;refine eO fun K6 hk6 => ?_;refine tC 1 F1 ?_;refine tS 1 F1 ?_;refine tS 1 F1 ?_;refine Or.inl (Or.inl ⟨_,ok_mThread M t,?_⟩);refine tL F1 ?_;refine hk6 _ ?_;refine hn5 (some ([2,3,7],none)) _ ?_;refine eCf ?_;refine eS fun K7 hn7 hr7 he7 => ?_;refine eO fun K8 hk8 => ?_;refine tC 1 F1 ?_;refine tS 1 F1 ?_;refine tS 1 F1 ?_;refine Or.inl (Or.inl ⟨_,ok_mPlace M a,?_⟩);refine tL F1 ?_;refine hk8 _ ?_;refine hn7 (some ([12],none)) _ ?_;refine eCt ?_;refine eS fun K9 hn9 hr9 he9 => ?_;refine eO fun K10 hk10 => ?_;refine tL F1 ?_;refine hk10 _ ?_;refine hn9 (some ([6],none)) _ ?_;refine hr4 _ ?_;refine hr3 _ ?_
   exact sf1 F1
 ·have d1 : decide (ThrB M t) = false := decide_eq_false h1
  rw [if_pos h1]
  unfold evFn sc_mWrong rv_mWrong
  have F1 := @d1
  refine eS fun K1 hn1 hr1 he1 => ?_;refine eO fun K2 hk2 => ?_;refine tL F1 ?_;refine hk2 _ ?_;refine hn1 (some ([1,2,3],none)) _ ?_;refine eS fun K3 hn3 hr3 he3 => ?_;refine eB fun K4 hn4 hx4 hr4 he4 => ?_;refine eS fun K5 hn5 hr5 he5 => ?_;refine eO fun K6 hk6 => ?_;refine tC 1 F1 ?_;refine tS 1 F1 ?_;refine tS 1 F1 ?_;refine Or.inl (Or.inl ⟨_,ok_mThread M t,?_⟩);refine tL F1 ?_;refine hk6 _ ?_;refine hn5 (some ([2,3,7],none)) _ ?_;refine eCt ?_;refine eS fun K7 hn7 hr7 he7 => ?_;refine eO fun K8 hk8 => ?_;refine tL F1 ?_;refine hk8 _ ?_;refine hn7 (some ([6],none)) _ ?_;refine hr4 _ ?_;refine hr3 _ ?_
  exact sf1 F1
theorem ok_mSeen (M : MemM) (t : Int) (hv : M.views.length ≤ 8) : Ok 114 [eMem M,sI t] (eView (seenM M t)) := by
 refine ok_of_tr Tryz.func114 tr_mSeen rfl ?_
 by_cases h1 : ThrB M t
 ·have d1 : decide (ThrB M t) = true := decide_eq_true h1
  obtain ⟨m,rfl,hm,e,_⟩ := thr_seen h1
  have q1 : IntKind.i64.wrap ((m : Int) + 1 - 1) = (m : Int) := by rw [IntKind.wrap_i64]; omega
  unfold evFn sc_mSeen rv_mSeen
  have F1 := And.intro @d1 (And.intro @q1 @e)
  refine eS fun K1 hn1 hr1 he1 => ?_;refine eO fun K2 hk2 => ?_;refine tL F1 ?_;refine hk2 _ ?_;refine hn1 (some ([1,2,4],none)) _ ?_;refine eS fun K3 hn3 hr3 he3 => ?_;refine eS fun K4 hn4 hr4 he4 => ?_;refine eO fun K5 hk5 => ?_;refine tC 1 F1 ?_;refine tS 1 F1 ?_;refine tS 1 F1 ?_;refine Or.inl (Or.inl ⟨_,ok_mThread M _,?_⟩);refine tL F1 ?_;refine hk5 _ ?_;refine hn4 (some ([1,2,4,8],none)) _ ?_;refine eCf ?_;refine hn3 (some ([1,2,4],none)) _ ?_;refine eS fun K6 hn6 hr6 he6 => ?_;refine eO fun K7 hk7 => ?_;refine tC 2 F1 ?_;refine tC 2 F1 ?_;refine tC 1 F1 ?_;refine tC 1 F1 ?_;refine tZ F1 ?_;refine hk7 _ ?_;refine hn6 (some ([4],none)) _ ?_
  exact sf1 F1
 ·have d1 : decide (ThrB M t) = false := decide_eq_false h1
  have e : seenM M t = fun _ => none := by
   unfold seenM
   split
   ·rw [List.getElem?_eq_none (by unfold ThrB at h1; omega)]; rfl
   ·rfl
  rw [e]
  unfold evFn sc_mSeen rv_mSeen
  have F1 := @d1
  refine eS fun K1 hn1 hr1 he1 => ?_;refine eO fun K2 hk2 => ?_;refine tL F1 ?_;refine hk2 _ ?_;refine hn1 (some ([1,2,4],none)) _ ?_;refine eS fun K3 hn3 hr3 he3 => ?_;refine eS fun K4 hn4 hr4 he4 => ?_;refine eO fun K5 hk5 => ?_;refine tC 1 F1 ?_;refine tS 1 F1 ?_;refine tS 1 F1 ?_;refine Or.inl (Or.inl ⟨_,ok_mThread M t,?_⟩);refine tL F1 ?_;refine hk5 _ ?_;refine hn4 (some ([1,2,4,8],none)) _ ?_;refine eCt ?_;refine eS fun K6 hn6 hr6 he6 => ?_;refine eO fun K7 hk7 => ?_;refine tZ F1 ?_;refine hk7 _ ?_;refine hn6 (some ([4],none)) _ ?_;refine hr3 _ ?_;refine sg1 F1 ?_
  rfl
theorem ok_mHistory (M : MemM) (a : Int) : Ok 83 [eMem M,sI a] (.tup [eHist (histM M a),sB (decide (PlcB M a))]) := by
 refine ok_of_tr Tryz.func83 tr_mHistory rfl ?_
 by_cases h1 : PlcB M a
 ·have d1 : decide (PlcB M a) = true := decide_eq_true h1
  obtain ⟨m,rfl,hm,e,_⟩ := plc_hist h1
  unfold evFn sc_mHistory rv_mHistory
  have F1 := And.intro @d1 @e
  refine eS fun K1 hn1 hr1 he1 => ?_;refine eO fun K2 hk2 => ?_;refine tL F1 ?_;refine hk2 _ ?_;refine hn1 (some ([1,2,4],none)) _ ?_;refine eS fun K3 hn3 hr3 he3 => ?_;refine eS fun K4 hn4 hr4 he4 => ?_;refine eO fun K5 hk5 => ?_;refine tC 1 F1 ?_;refine tS 1 F1 ?_;refine tS 1 F1 ?_;refine Or.inl (Or.inl ⟨_,ok_mPlace M _,?_⟩);refine tL F1 ?_;refine hk5 _ ?_;refine hn4 (some ([1,2,4,9],none)) _ ?_;refine eCf ?_;refine hn3 (some ([1,2,4],none)) _ ?_;refine eS fun K6 hn6 hr6 he6 => ?_;refine eO fun K7 hk7 => ?_;refine tC 2 F1 ?_;refine tC 2 F1 ?_;refine tC 1 F1 ?_;refine tC 1 F1 ?_;refine tL F1 ?_;refine hk7 _ ?_;refine hn6 (some ([4,5],none)) _ ?_
  exact sf1 F1
 ·have d1 : decide (PlcB M a) = false := decide_eq_false h1
  have e : histM M a = [] := by
   unfold histM
   split
   ·rw [List.getElem?_eq_none (by unfold PlcB at h1; omega)]; rfl
   ·rfl
  rw [e]
  unfold evFn sc_mHistory rv_mHistory
  have F1 := @d1
  refine eS fun K1 hn1 hr1 he1 => ?_;refine eO fun K2 hk2 => ?_;refine tL F1 ?_;refine hk2 _ ?_;refine hn1 (some ([1,2,4],none)) _ ?_;refine eS fun K3 hn3 hr3 he3 => ?_;refine eS fun K4 hn4 hr4 he4 => ?_;refine eO fun K5 hk5 => ?_;refine tC 1 F1 ?_;refine tS 1 F1 ?_;refine tS 1 F1 ?_;refine Or.inl (Or.inl ⟨_,ok_mPlace M a,?_⟩);refine tL F1 ?_;refine hk5 _ ?_;refine hn4 (some ([1,2,4,9],none)) _ ?_;refine eCt ?_;refine eS fun K6 hn6 hr6 he6 => ?_;refine eO fun K7 hk7 => ?_;refine tC 2 F1 ?_;refine tL F1 ?_;refine hk7 _ ?_;refine hn6 (some ([4,5],none)) _ ?_;refine hr3 _ ?_;refine sg1 F1 ?_
  rfl
def lastWM (M : MemM) (a : Int) : WordV := (lastM (histM M a)).word
theorem hist_len {M : MemM} {n : Nat} (hM : MemOk M n) (a : Int) : (histM M a).length ≤ n := by
 unfold histM
 split
 ·cases e : M.places[a.toNat]? with
  | none => simp
  | some h => exact hM.most h (List.mem_of_getElem? e)
 ·simp
theorem ok_mLast (M : MemM) (a : Int) {n : Nat} (hM : MemOk M n) (hn : n ≤ 100000) : Ok 69 [eMem M,sI a] (.tup [.agg (eWord (lastWM M a)),sB (decide (PlcB M a))]) := by
 refine ok_of_tr Tryz.func69 tr_mLast rfl ?_
 have hl := hist_len hM a
 unfold evFn sc_mLast rv_mLast
 refine eS fun _ hn1 _ _ => ?_;refine eO fun _ hk2 => ?_;refine tL0 ?_;refine hk2 _ ?_;refine hn1 (some ([1,2,4],none)) _ ?_;refine eS fun _ hn3 _ _ => ?_;refine eO fun _ hk4 => ?_;refine tC0 1 ?_;refine tS0 1 ?_;refine tS0 1 ?_;refine Or.inl (Or.inl ⟨_,ok_mHistory M a,?_⟩);refine tC0 5 ?_;refine tL0 ?_;refine hk4 _ ?_;refine hn3 (some ([4,6,7],none)) _ ?_;refine eS fun _ hn5 _ _ => ?_;refine eO fun _ hk6 => ?_;refine tC0 1 ?_;refine tS0 1 ?_;refine Or.inl (Or.inl ⟨_,ok_hLast _ (by omega),?_⟩);refine tC0 3 ?_;refine tL0 ?_;refine hk6 _ ?_;refine hn5 (some ([4,5],none)) _ ?_;refine sg0 ?_
 rfl
theorem ok_mWith (M : MemM) (t : Int) (v : ViewV) (ht : ThrB M t) (hv : M.views.length ≤ 8) : Ok 118 [eMem M,sI t,eView v] (eMem (withM M t v)) := by
 refine ok_of_tr Tryz.func118 tr_mWith rfl ?_
 obtain ⟨m,rfl,hm,e,_⟩ := thr_seen ht
 have q1 : IntKind.i64.wrap ((m : Int) + 1 - 1) = (m : Int) := by rw [IntKind.wrap_i64]; omega
 have q2 : (M.views.map eV1).take M.views.length = M.views.map eV1 := by rw [List.take_of_length_le (by simp)]
 have q3 : (List.replicate M.views.length [Sh.mp 76 fun _ => none]).drop M.views.length = [] := by simp
 have q4 : ((m : Int) + 1 - 1).toNat = m := by omega
 unfold evFn sc_mWith rv_mWith
 have F1 := And.intro @q1 (And.intro @q2 (And.intro @q3 @e))
 refine eS fun _ hn1 _ _ => ?_;refine eO fun _ hk2 => ?_;refine tL F1 ?_;refine hk2 _ ?_;refine hn1 (some ([1,3,5,6],none)) _ ?_;refine eS fun _ hn3 _ _ => ?_;refine eO fun _ hk4 => ?_;refine tC 2 F1 ?_;refine tC 2 F1 ?_;refine tL F1 ?_;refine hk4 _ ?_;refine hn3 (some ([1,3,5,6,7],none)) _ ?_;refine eS fun _ hn5 _ _ => ?_;refine eO fun _ hk6 => ?_;refine tC 3 F1 ?_;refine tZ F1 ?_;refine hk6 _ ?_;refine hn5 (some ([1,3,5,6,7],none)) _ ?_;refine eS fun _ hn7 _ _ => ?_;refine eO fun _ hk8 => ?_;refine tC 3 F1 ?_;refine tC 1 F1 ?_;refine tC 1 F1 ?_;refine tZ F1 ?_;refine hk8 _ ?_;refine hn7 (some ([3,6,7],none)) _ ?_;refine eS fun _ hn9 _ _ => ?_;refine eO fun _ hk10 => ?_;refine tZ F1 ?_;refine hk10 _ ?_;refine hn9 (some ([3,6],none)) _ ?_;refine eS fun _ hn11 _ _ => ?_;refine eO fun _ hk12 => ?_;refine tC 1 F1 ?_;refine tZ F1 ?_;refine hk12 _ ?_;refine hn11 (some ([6],none)) _ ?_;refine sg1 F1 ?_
 simp [withM,q4,List.map_set]
end Go.Proofs.YtkmbcjnaaokilaaGreatDoor
