/-
  Layer 5 by shadows: left, Crash, Least.
-/
import Derived.Test.YtkmbcjnaaokilaaGreatDoorM5a
namespace Go.Proofs.YtkmbcjnaaokilaaGreatDoor
set_option linter.unusedSimpArgs false
set_option linter.unusedVariables false
open Go.RowKit Go.Maps
def putS (out : List WordV) (s : StoreV) : List WordV := out.set s.loc.toNat s.word
def lefN (L : LinesM) (more : Int → Int → Int) : Nat → List WordV
 | 0 => L.first
 | n + 1 => match L.logs[n]? with
  | some y => (y.stores.take (y.kept + more n (y.stores.length - y.kept)).toNat).foldl putS (lefN L more n)
  | none => lefN L more n
def leftM (L : LinesM) (more : Int → Int → Int) : List WordV := lefN L more L.logs.length
theorem foldl_putS_len : ∀ (l : List StoreV) (out : List WordV),(l.foldl putS out).length = out.length
 | [],_ => rfl
 | s :: l,out => by rw [List.foldl_cons,foldl_putS_len l]; simp [putS]
theorem lefN_len (L : LinesM) (more : Int → Int → Int) : ∀ n,(lefN L more n).length = L.first.length
 | 0 => rfl
 | n + 1 => by
  unfold lefN
  split
  ·rw [foldl_putS_len,lefN_len L more n]
  ·exact lefN_len L more n
structure LinesOk (L : LinesM) : Prop where
 many : L.logs.length = (L.first.length + 7) / 8
 most : L.first.length ≤ 4096
 kept : ∀ y ∈ L.logs,0 ≤ y.kept ∧ y.kept ≤ (y.stores.length : Int)
 place : ∀ (n : Nat) (y : LogV),L.logs[n]? = some y → ∀ s ∈ y.stores,0 ≤ s.loc ∧ s.loc < (L.first.length : Int) ∧ s.loc / 8 = (n : Int)
abbrev boxL (L : LinesM) : Ob := .box 57 [.sl 3 0 (L.first.map eWord),.sl 2 0 (L.logs.map eLog),.mp 3 fun t => (L.asks t).map eAsked]
def LInv (L : LinesM) (more : Int → Int → Int) (fx : Sh) (k : Nat) (S : St) : Prop :=
 ∃ n,n ≤ L.logs.length ∧ k = L.logs.length - n ∧ S = ⟨[(1,fx),(5,.own 1),(14,.sl 2 0 (L.logs.map eLog)),(15,sI L.logs.length),(16,sI n)],[(0,boxL L),(1,.row 79 3 ((lefN L more n).map eWord))],2⟩
def LInv2 (L : LinesM) (more : Int → Int → Int) (fx : Sh) (n : Nat) (y : LogV) (es : List StoreV) (k : Nat) (S : St) : Prop :=
 ∃ j,j ≤ es.length ∧ k = es.length - j ∧ S = ⟨[(1,fx),(5,.own 1),(14,.sl 2 0 (L.logs.map eLog)),(15,sI L.logs.length),(16,sI n),(35,.sl 4 2 (es.map eStore)),(36,sI es.length),(37,sI j)],[(0,boxL L),(1,.row 79 3 (((es.take j).foldl putS (lefN L more n)).map eWord)),(2,.box 177 (eLog y))],3⟩
theorem ok_lLeft (L : LinesM) (more : Int → Int → Int) (f : FuncId) (cap : List Sh) (hL : LinesOk L) (hlen : ∀ y ∈ L.logs,y.stores.length ≤ 1000) (hE : Enters f)
  (hf : ∀ (n many : Int),0 ≤ n → n ≤ 4096 → 0 ≤ many → many ≤ 1000 → Ok f ([sI n,sI many] ++ cap) (sI (more n many))) (hm : ∀ (n many : Int),0 ≤ n → n ≤ 4096 → 0 ≤ many → many ≤ 1000 → 0 ≤ more n many ∧ more n many ≤ many) :
  Ok 85 [eLines L,.fn (.func f) [] cap] (.sl 3 0 ((leftM L more).map eWord)) := by
 refine ok_of_tr Tryz.func85 tr_lLeft rfl ?_
 have hmany := hL.many
 have hmost := hL.most
 unfold evFn sc_lLeft rv_lLeft
 refine eS fun _ hn1 _ _ => ?_;refine eO fun _ hk2 => ?_;refine tL0 ?_;refine hk2 _ ?_;refine hn1 (some ([1,2],none)) _ ?_;refine eS fun _ hn3 _ _ => ?_;refine eO fun _ hk4 => ?_;refine tC0 2 ?_;refine tS0 1 ?_;refine Or.inl (Or.inr (Or.inl ⟨_,_,_,row_cloneWord 0 _ (by simp; omega),?_⟩));refine tL0 ?_;refine hk4 _ ?_;refine hn3 (some ([1,2,5],none)) _ ?_;refine eS fun _ hn5 _ _ => ?_;refine eS fun _ hn6 _ _ => ?_;refine eO fun _ hk7 => ?_;refine tC0 2 ?_;refine tL0 ?_;refine hk7 _ ?_;refine hn6 (some ([1,5,14,15,16],none)) _ ?_;refine eB fun _ _ hx8 _ _ => ?_;refine eW (LInv L more (.fn (.func f) [] cap)) (L.logs.length) (some ([1,5,14,15,16],some ([0,1],2))) ([]) ?_ ?_
 ·try refine lp0 ?_
  exact ⟨0,by omega,by omega,rfl⟩
 ·intro k S1 hI
  obtain ⟨n,hn,rfl,rfl⟩ := hI
  intro _ hn9 _ he9
  refine eS fun _ hn10 _ _ => ?_;refine eO fun _ hk11 => ?_;refine tZ0 ?_;refine hk11 _ ?_;refine hn10 (some ([1,5,14,15,16,17],none)) _ ?_;refine eS fun _ hn12 _ he12 => ?_;refine eC rfl (fun hc0 => ?_) (fun hc0 => ?_)
  ·try replace hc0 := hcS hc0
   obtain ⟨y,hy⟩ : ∃ y,L.logs[n]? = some y := ⟨L.logs[n]'(by omega),by simp⟩
   have hym := List.mem_of_getElem? hy
   obtain ⟨k1,k2⟩ := hL.kept y hym
   have hyl := hlen y hym
   obtain ⟨m1,m2⟩ := hm n (y.stores.length - y.kept) (by omega) (by omega) (by omega) (by omega)
   have q1 : IntKind.i64.wrap ((y.stores.length : Int) - y.kept) = (y.stores.length : Int) - y.kept := by rw [IntKind.wrap_i64]; omega
   have q2 : IntKind.i64.wrap (y.kept + more n ((y.stores.length : Int) - y.kept)) = y.kept + more n ((y.stores.length : Int) - y.kept) := by rw [IntKind.wrap_i64]; omega
   have q3 : IntKind.i64.wrap ((n : Int) + 1) = ((n + 1 : Nat) : Int) := by rw [IntKind.wrap_i64]; omega
   obtain ⟨T,hT⟩ : ∃ T,T = (y.kept + more n ((y.stores.length : Int) - y.kept)).toNat := ⟨_,rfl⟩
   have hTl : T ≤ y.stores.length := by omega
   have hTn : (y.stores.take T).length = T := by rw [List.length_take]; omega
   have F1 := And.intro @hy (And.intro @q1 (And.intro @q2 @q3))
   refine hn12 (some ([1,5,14,15,16],none)) _ ?_;refine eS fun _ hn13 _ _ => ?_;refine eB fun _ hn14 _ _ _ => ?_;refine eS fun _ hn15 _ _ => ?_;refine eO fun _ hk16 => ?_;refine tC 2 F1 ?_;refine tC 1 F1 ?_;refine tZ F1 ?_;refine hk16 _ ?_;refine hn15 (some ([1,5,6,7,14,15,16],none)) _ ?_;refine eS fun _ hn17 _ _ => ?_;refine eD [] (n := 17) fun _ hk18 => ?_;refine sq0 ?_;refine fC 2 F1 ?_;refine fC 2 F1 ?_;refine fC 4 F1 ?_;refine fC 3 F1 ?_;refine fC 1 F1 ?_;refine fS 1 F1 ?_;refine ⟨hE,_,hf n _ (by omega) (by omega) (by omega) (by omega),?_⟩;refine fC 1 F1 ?_;refine fC 1 F1 ?_;refine fL F1 ?_;refine hk18 _ ?_;refine sr0 ?_;refine tL F1 ?_;refine hn17 (some ([1,5,14,15,16,35,36,37],none)) _ ?_;refine eB fun _ _ hx20 _ _ => ?_;refine eW (LInv2 L more (.fn (.func f) [] cap) n y (y.stores.take T)) ((y.stores.take T).length) (some ([1,5,14,15,16,35,36,37],some ([0,1,2],3))) ([]) ?_ ?_
   ·try refine lp0 ?_
    refine ⟨0,by omega,by omega,?_⟩
    simp only [← hT,List.map_take,List.length_map,List.length_take,List.take_zero,List.foldl_nil]
    rfl
   ·intro k S1 hI
    obtain ⟨j,hj,rfl,rfl⟩ := hI
    intro _ hn21 _ he21
    refine eS fun _ hn22 _ _ => ?_;refine eO fun _ hk23 => ?_;refine tZ F1 ?_;refine hk23 _ ?_;refine hn22 (some ([1,5,14,15,16,35,36,37,38],none)) _ ?_;refine eS fun _ hn24 _ he24 => ?_;refine eC rfl (fun hc1 => ?_) (fun hc1 => ?_)
    ·try replace hc1 := hcS hc1
     obtain ⟨st,hst⟩ : ∃ st,(y.stores.take T)[j]? = some st := ⟨_,List.getElem?_eq_getElem (by omega)⟩
     obtain ⟨l1,l2,l3⟩ := hL.place n y hy st (List.mem_of_mem_take (List.mem_of_getElem? hst))
     obtain ⟨q,hqq⟩ := Int.eq_ofNat_of_zero_le l1
     have hql : q < ((y.stores.take T).take j |>.foldl putS (lefN L more n)).length := by rw [foldl_putS_len,lefN_len]; omega
     obtain ⟨w0,hw0⟩ : ∃ w0,((y.stores.take T).take j |>.foldl putS (lefN L more n))[q]? = some w0 := ⟨_,List.getElem?_eq_getElem hql⟩
     have q5 : IntKind.i64.wrap ((j : Int) + 1) = ((j + 1 : Nat) : Int) := by rw [IntKind.wrap_i64]; omega
     have F2 := And.intro F1 (And.intro @hst (And.intro @hqq (And.intro @hw0 @q5)))
     refine hn24 (some ([1,5,14,15,16,35,36,37],none)) _ ?_;refine eS fun _ hn25 _ _ => ?_;refine eB fun _ hn26 _ _ _ => ?_;refine eS fun _ hn27 _ _ => ?_;refine eO fun _ hk28 => ?_;refine tC 1 F2 ?_;refine tC 1 F2 ?_;refine tZ F2 ?_;refine hk28 _ ?_;refine hn27 (some ([1,5,9,14,15,16,35,36,37],none)) _ ?_;refine eO fun _ hk29 => ?_;refine tC 3 F2 ?_;refine tC 2 F2 ?_;refine tC 1 F2 ?_;refine tZ F2 ?_;refine hk29 _ ?_;refine hn26 _ ?_;refine hn25 (some ([1,5,14,15,16,35,36,37],none)) _ ?_;refine eO fun _ hk30 => ?_;refine tC 1 F2 ?_;refine tL F2 ?_;refine hk30 _ ?_;refine hn21 ((y.stores.take T).length - (j + 1)) (some ([1,5,14,15,16,35,36,37],some ([0,1,2],3))) _ ?_ ?_
     all_goals try refine lp0 ?_
     ·omega
     ·refine ⟨j + 1,by omega,by omega,?_⟩
      have e1 : (y.stores.take T).take (j + 1) = (y.stores.take T).take j ++ [st] := by rw [List.take_add_one,hst]; rfl
      rw [e1,List.foldl_append]
      simp only [List.foldl_cons,List.foldl_nil,putS,hqq,Int.toNat_natCast,List.map_set]
    ·try replace hc1 := hcS hc1
     refine he24 2 _ ?_;refine he21 2 _ ?_;refine hx20 _ ?_;refine hn14 _ ?_;refine hn13 (some ([1,5,14,15,16],none)) _ ?_;refine eO fun _ hk31 => ?_;refine tC 1 F1 ?_;refine tL F1 ?_;refine hk31 _ ?_;refine hn9 (L.logs.length - (n + 1)) (some ([1,5,14,15,16],some ([0,1],2))) _ ?_ ?_
     all_goals try refine lp0 ?_
     ·omega
     ·refine ⟨n + 1,by omega,by omega,?_⟩
      have hj2 : j = (y.stores.take T).length := by omega
      have e2 : (y.stores.take T).take j = y.stores.take T := by rw [hj2,List.take_length]
      have e3 : lefN L more (n + 1) = (y.stores.take T).foldl putS (lefN L more n) := by show (match L.logs[n]? with | some y => _ | none => _) = _; rw [hy]; show (y.stores.take (y.kept + more n (y.stores.length - y.kept)).toNat).foldl putS (lefN L more n) = _; rw [← hT]
      rw [e3,e2]
  ·try replace hc0 := hcS hc0
   refine he12 0 _ ?_;refine he9 0 _ ?_;refine hx8 _ ?_;refine hn5 (some ([5],none)) _ ?_;refine eS fun _ hn32 _ _ => ?_;refine eO fun _ hk33 => ?_;refine tL0 ?_;refine hk33 _ ?_;refine hn32 (some ([4],none)) _ ?_;refine sg0 ?_
   have hnn : n = L.logs.length := by omega
   subst hnn; rfl
theorem ok_lCrashF (c n m : Int) (hm : m ≤ 1099511627776) : Ok 86 [sI n,sI m,.fp [sI c] 0] (sI (mixF c n m)) := by
 refine ok_of_tr Tryz.func86 tr_lCrashF rfl ?_
 unfold evFn sc_lCrashF rv_lCrashF
 refine eS fun _ hn1 _ _ => ?_;refine eO fun _ hk2 => ?_;refine tL0 ?_;refine hk2 _ ?_;refine hn1 (some ([0,1,2],none)) _ ?_;refine eS fun _ hn3 _ _ => ?_;refine eO fun _ hk4 => ?_;refine tC0 1 ?_;refine tS0 2 ?_;refine tS0 1 ?_;refine Or.inl (Or.inl ⟨_,ok_lMix _ _ _ hm,?_⟩);refine tL0 ?_;refine hk4 _ ?_;refine hn3 (some ([5],none)) _ ?_
 exact sf0
theorem ok_lCrash (L : LinesM) (c : Int) (hL : LinesOk L) (hlen : ∀ y ∈ L.logs,y.stores.length ≤ 1000) : Ok 70 [eLines L,sI c] (.sl 3 0 ((leftM L (mixF c)).map eWord)) := by
 refine ok_of_tr Tryz.func70 tr_lCrash rfl ?_
 unfold evFn sc_lCrash rv_lCrash
 refine eS fun _ hn1 _ _ => ?_;refine eO fun _ hk2 => ?_;refine tL0 ?_;refine hk2 _ ?_;refine hn1 (some ([2,3],none)) _ ?_;refine eS fun _ hn3 _ _ => ?_;refine eO fun _ hk4 => ?_;refine tC0 1 ?_;refine tS0 1 ?_;refine tS0 1 ?_;refine Or.inl (Or.inl ⟨_,ok_lLeft L (mixF c) 86 [.fp [sI c] 0] hL hlen (callFunc_enter Tryz.func86 rfl rfl) (fun n m _ _ _ _ => ok_lCrashF c n m (by omega)) (fun n m _ _ _ _ => by have := mixF_le c n m; omega),?_⟩);refine tL0 ?_;refine hk4 _ ?_;refine hn3 (some ([4],none)) _ ?_
 exact sf0
end Go.Proofs.YtkmbcjnaaokilaaGreatDoor
