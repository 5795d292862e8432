/-
  The shadow code of functions, written by a program; each is what the translator makes of the function.
  Layer 4 by shadows: New, an operation of the laws, the example.
  Layer 4 by shadows: the example, the memory that a case describes.
-/
import Derived.Test.YtkmbcjnaaokilaaGreatDoorMC
import Derived.Test.YtkmbcjnaaokilaaGreatDoorK4c
namespace Go.Proofs.YtkmbcjnaaokilaaGreatDoor
open Go.RowKit

end Go.Proofs.YtkmbcjnaaokilaaGreatDoor
namespace Go.Proofs.YtkmbcjnaaokilaaGreatDoor
set_option linter.unusedSimpArgs false
set_option linter.unusedVariables false
open Go.RowKit Go.Maps
def newP (w : WordV) : List MsgV := [⟨w,0,fun _ => none⟩]
def mnewM (k : Int) (ws : List WordV) : MemM × Int :=
 if k < 1 ∨ 8 < k then (⟨[],[]⟩,3) else if ws.length = 0 then (⟨[],[]⟩,8) else if 4096 < ws.length then (⟨[],[]⟩,15) else (⟨ws.map newP,List.replicate k.toNat fun _ => none⟩,0)
theorem memOk_zero : MemOk ⟨[],[]⟩ 0 := ⟨by simp,by simp,fun h hh => by simp at hh,fun h hh => by simp at hh,fun h hh => by simp at hh,fun v hv => by simp at hv⟩
theorem memOk_new (k : Int) (ws : List WordV) : MemOk (mnewM k ws).1 1 := by
 unfold mnewM
 split
 ·exact memOk_up memOk_zero (by omega)
 ·split
  ·exact memOk_up memOk_zero (by omega)
  ·split
   ·exact memOk_up memOk_zero (by omega)
   ·refine ⟨by simp; omega,by simp; omega,fun h hh => ?_,fun h hh => ?_,fun h hh m hm => ?_,fun v hv => ?_⟩
    ·obtain ⟨w,_,rfl⟩ := List.mem_map.1 hh; simp [newP]
    ·obtain ⟨w,_,rfl⟩ := List.mem_map.1 hh; simp [newP]
    ·obtain ⟨w,_,rfl⟩ := List.mem_map.1 hh
     simp only [newP,List.mem_singleton] at hm
     subst hm; exact viewOk_none
    ·rw [List.mem_replicate] at hv
     rw [hv.2]; exact viewOk_none
def MNewInv (g : Nat) (ws : List WordV) (k : Nat) (m : Nat) (S : St) : Prop :=
 ∃ i,i ≤ ws.length ∧ m = ws.length - i ∧ S = ⟨[(4,.ptr 0 0 0),(6,.ptr 1 0 0),(30,.sl 3 g (ws.map eWord)),(31,sI ws.length),(32,sI i)],
  [(0,.box 53 [.sl 1 0 [],.sl 1 0 []]),(1,.box 53 [.own 3,.own 2]),(2,.row 157 1 (List.replicate k [.mp 76 fun _ => none])),(3,.row 150 1 ((ws.take i).map fun w => ePlace (newP w)))],4⟩
set_option maxHeartbeats 4000000 in
theorem ok_mNew (k : Int) (g : Nat) (ws : List WordV) : Ok 65 [sI k,.sl 3 g (ws.map eWord)] (.tup [eMem (mnewM k ws).1,sI (mnewM k ws).2]) := by
 refine ok_of_tr Tryz.func65 tr_mNew rfl ?_
 unfold mnewM
 by_cases h1 : k < 1
 ·rw [if_pos (.inl h1)]
  unfold evFn sc_mNew rv_mNew
  have F1 := @h1
  refine eS fun K1 hn1 hr1 he1 => ?_;refine eO fun K2 hk2 => ?_;refine tL F1 ?_;refine hk2 _ ?_;refine hn1 (some ([0,1,4],none)) _ ?_;refine eS fun K3 hn3 hr3 he3 => ?_;refine eB fun K4 hn4 hx4 hr4 he4 => ?_;refine eS fun K5 hn5 hr5 he5 => ?_;refine eO fun K6 hk6 => ?_;refine tC 2 F1 ?_;refine tC 3 F1 ?_;refine tL F1 ?_;refine hk6 _ ?_;refine hn5 (some ([0,1,4,9],none)) _ ?_;refine eCt ?_;refine eS fun K7 hn7 hr7 he7 => ?_;refine eO fun K8 hk8 => ?_;refine tC 2 F1 ?_;refine tL F1 ?_;refine hk8 _ ?_;refine hn7 (some ([4,5],none)) _ ?_;refine hr4 _ ?_;refine hr3 _ ?_
  exact sf1 F1
 by_cases h2 : 8 < k
 ·rw [if_pos (.inr h2)]
  unfold evFn sc_mNew rv_mNew
  have F1 := And.intro @h1 @h2
  refine eS fun K1 hn1 hr1 he1 => ?_;refine eO fun K2 hk2 => ?_;refine tL F1 ?_;refine hk2 _ ?_;refine hn1 (some ([0,1,4],none)) _ ?_;refine eS fun K3 hn3 hr3 he3 => ?_;refine eB fun K4 hn4 hx4 hr4 he4 => ?_;refine eS fun K5 hn5 hr5 he5 => ?_;refine eO fun K6 hk6 => ?_;refine tC 2 F1 ?_;refine tC 3 F1 ?_;refine tL F1 ?_;refine hk6 _ ?_;refine hn5 (some ([0,1,4,9],none)) _ ?_;refine eCt ?_;refine eS fun K7 hn7 hr7 he7 => ?_;refine eO fun K8 hk8 => ?_;refine tC 2 F1 ?_;refine tL F1 ?_;refine hk8 _ ?_;refine hn7 (some ([4,5],none)) _ ?_;refine hr4 _ ?_;refine hr3 _ ?_
  exact sf1 F1
 rw [if_neg (by omega)]
 by_cases h3 : ws.length = 0
 ·rw [if_pos h3]
  have d : ((ws.length : Int) == 0) = true := by simp [h3]
  unfold evFn sc_mNew rv_mNew
  have F1 := And.intro @h1 (And.intro @h2 @d)
  refine eS fun K1 hn1 hr1 he1 => ?_;refine eO fun K2 hk2 => ?_;refine tL F1 ?_;refine hk2 _ ?_;refine hn1 (some ([0,1,4],none)) _ ?_;refine eS fun K3 hn3 hr3 he3 => ?_;refine eB fun K4 hn4 hx4 hr4 he4 => ?_;refine eS fun K5 hn5 hr5 he5 => ?_;refine eO fun K6 hk6 => ?_;refine tC 2 F1 ?_;refine tC 3 F1 ?_;refine tL F1 ?_;refine hk6 _ ?_;refine hn5 (some ([0,1,4,9],none)) _ ?_;refine eCf ?_;refine eS fun K7 hn7 hr7 he7 => ?_;refine eO fun K8 hk8 => ?_;refine tC 3 F1 ?_;refine tL F1 ?_;refine hk8 _ ?_;refine hn7 (some ([0,1,4,17],none)) _ ?_;refine eCt ?_;refine eS fun K9 hn9 hr9 he9 => ?_;refine eO fun K10 hk10 => ?_;refine tC 2 F1 ?_;refine tL F1 ?_;refine hk10 _ ?_;refine hn9 (some ([4,5],none)) _ ?_;refine hr4 _ ?_;refine hr3 _ ?_
  exact sf1 F1
 rw [if_neg h3]
 have d : ((ws.length : Int) == 0) = false := by simp; exact fun e => h3 (by rw [e]; rfl)
 by_cases h4 : 4096 < ws.length
 ·rw [if_pos h4]
  have d4 : (4096 : Int) < (ws.length : Int) := by omega
  unfold evFn sc_mNew rv_mNew
  have F1 := And.intro @h1 (And.intro @h2 (And.intro @d @d4))
  refine eS fun K1 hn1 hr1 he1 => ?_;refine eO fun K2 hk2 => ?_;refine tL F1 ?_;refine hk2 _ ?_;refine hn1 (some ([0,1,4],none)) _ ?_;refine eS fun K3 hn3 hr3 he3 => ?_;refine eB fun K4 hn4 hx4 hr4 he4 => ?_;refine eS fun K5 hn5 hr5 he5 => ?_;refine eO fun K6 hk6 => ?_;refine tC 2 F1 ?_;refine tC 3 F1 ?_;refine tL F1 ?_;refine hk6 _ ?_;refine hn5 (some ([0,1,4,9],none)) _ ?_;refine eCf ?_;refine eS fun K7 hn7 hr7 he7 => ?_;refine eO fun K8 hk8 => ?_;refine tC 3 F1 ?_;refine tL F1 ?_;refine hk8 _ ?_;refine hn7 (some ([0,1,4,17],none)) _ ?_;refine eCf ?_;refine eS fun K9 hn9 hr9 he9 => ?_;refine eO fun K10 hk10 => ?_;refine tC 3 F1 ?_;refine tL F1 ?_;refine hk10 _ ?_;refine hn9 (some ([0,1,4,22],none)) _ ?_;refine eCt ?_;refine eS fun K11 hn11 hr11 he11 => ?_;refine eO fun K12 hk12 => ?_;refine tC 2 F1 ?_;refine tL F1 ?_;refine hk12 _ ?_;refine hn11 (some ([4,5],none)) _ ?_;refine hr4 _ ?_
  refine hr3 _ ?_
  exact sf1 F1
 rw [if_neg h4]
 have d4 : ¬ (4096 : Int) < (ws.length : Int) := by omega
 obtain ⟨q,rfl⟩ := Int.eq_ofNat_of_zero_le (show 0 ≤ k by omega)
 unfold evFn sc_mNew rv_mNew
 have F1 := And.intro @h1 (And.intro @h2 (And.intro @d @d4))
 refine eS fun K1 hn1 hr1 he1 => ?_;refine eO fun K2 hk2 => ?_;refine tL F1 ?_;refine hk2 _ ?_;refine hn1 (some ([0,1,4],none)) _ ?_;refine eS fun K3 hn3 hr3 he3 => ?_;refine eB fun K4 hn4 hx4 hr4 he4 => ?_;refine eS fun K5 hn5 hr5 he5 => ?_;refine eO fun K6 hk6 => ?_;refine tC 2 F1 ?_;refine tC 3 F1 ?_;refine tL F1 ?_;refine hk6 _ ?_;refine hn5 (some ([0,1,4,9],none)) _ ?_;refine eCf ?_;refine eS fun K7 hn7 hr7 he7 => ?_;refine eO fun K8 hk8 => ?_;refine tC 3 F1 ?_;refine tL F1 ?_;refine hk8 _ ?_;refine hn7 (some ([0,1,4,17],none)) _ ?_;refine eCf ?_;refine eS fun K9 hn9 hr9 he9 => ?_;refine eO fun K10 hk10 => ?_;refine tC 3 F1 ?_;refine tL F1 ?_;refine hk10 _ ?_;refine hn9 (some ([0,1,4,22],none)) _ ?_;refine eCf ?_;refine hn4 _ ?_;refine hn3 (some ([0,1,4],none)) _ ?_;refine eS fun K11 hn11 hr11 he11 => ?_;refine eO fun K12 hk12 => ?_;refine tC 2 F1 ?_;refine tZ F1 ?_;refine hk12 _ ?_
 refine hn11 (some ([1,4,6],none)) _ ?_;refine eS fun _ hn13 _ _ => ?_;refine eS fun _ hn14 _ _ => ?_;refine eO fun _ hk15 => ?_;refine tL F1 ?_;refine hk15 _ ?_;refine hn14 (some ([4,6,30,31,32],none)) _ ?_;refine eB fun _ _ hx16 _ _ => ?_;refine eW (MNewInv g ws q) (ws.length) (some ([4,6,30,31,32],some ([0,2,1,3],4))) ([.cell 2 0 (some 150) 1]) ?_ ?_
 ·try refine lp0 ?_
  exact ⟨0,by omega,by omega,rfl⟩
 ·intro k S1 hI
  obtain ⟨i,hi,rfl,rfl⟩ := hI
  intro _ hn17 _ he17
  refine eS fun _ hn18 _ _ => ?_;refine eO fun _ hk19 => ?_;refine tZ F1 ?_;refine hk19 _ ?_;refine hn18 (some ([4,6,30,31,32,33],none)) _ ?_;refine eS fun _ hn20 _ he20 => ?_;refine eC rfl (fun hc3 => ?_) (fun hc3 => ?_)
  ·try replace hc3 := hcS hc3
   obtain ⟨w,hw⟩ : ∃ w,ws[i]? = some w := ⟨_,List.getElem?_eq_getElem (by omega)⟩
   have q2 : IntKind.i64.wrap ((i : Int) + 1) = ((i + 1 : Nat) : Int) := by rw [IntKind.wrap_i64]; omega
   have q3 : ((ws.take i).map fun w => ePlace (newP w)).length ≤ 4096 := by simp; omega
   have F2 := And.intro F1 (And.intro @hw @q2)
   refine hn20 (some ([4,6,30,31,32],none)) _ ?_;refine eS fun _ hn21 _ _ => ?_;refine eB fun _ hn22 _ _ _ => ?_;refine eS fun _ hn23 _ _ => ?_;refine eO fun _ hk24 => ?_;refine tC 1 F2 ?_;refine tC 1 F2 ?_;refine tZ F2 ?_;refine hk24 _ ?_;refine hn23 (some ([4,6,8,30,31,32],none)) _ ?_;refine eD [] (n := 5) fun _ hk25 => ?_;refine sq0 ?_;refine fC 2 F2 ?_;refine fC 1 F2 ?_;refine fS 1 F2 ?_;refine ⟨_,ok_hNew w,?_⟩;refine fZ F2 ?_;refine hk25 _ ?_;refine sr0 ?_;refine tC 1 F2 ?_;refine tZ F2 ?_;refine hn22 _ ?_;refine hn21 (some ([4,6,30,31,32],none)) _ ?_;refine eO fun _ hk27 => ?_;refine tC 1 F2 ?_;refine tL F2 ?_;refine hk27 _ ?_;refine hn17 (ws.length - (i + 1)) (some ([4,6,30,31,32],some ([0,1,2,5],4))) _ ?_ ?_
   all_goals try refine lp0 ?_
   ·omega
   ·refine ⟨i + 1,by omega,by omega,?_⟩
    rw [show ws.take (i + 1) = ws.take i ++ [w] from by rw [List.take_add_one,hw]; rfl,List.map_append]
    rfl
  ·try replace hc3 := hcS hc3
   obtain rfl : i = ws.length := by omega
   refine he20 1 _ ?_;refine he17 1 _ ?_;refine hx16 _ ?_;refine hn13 (some ([4,6],none)) _ ?_;refine eS fun _ hn28 _ _ => ?_;refine eO fun _ hk29 => ?_;refine tC 1 F1 ?_;refine tC 1 F1 ?_;refine tL F1 ?_;refine hk29 _ ?_;refine hn28 (some ([4,5],none)) _ ?_;refine sg1 F1 ?_
   simp [Function.comp_def]
structure ActM where
 op : Int
 place : Int
 old : WordV
 new : WordV
abbrev eAct4 (a : ActM) : List Sh := [sI a.op,sI a.place,sI a.old.val,sU a.old.ver,sU a.old.ref,sI a.new.val,sU a.new.ver,sU a.new.ref]
structure DoV where
 thread : Int
 act : ActM
 choice : Int
end Go.Proofs.YtkmbcjnaaokilaaGreatDoor
namespace Go.Proofs.YtkmbcjnaaokilaaGreatDoor
set_option linter.unusedSimpArgs false
set_option linter.unusedVariables false
open Go.RowKit Go.Maps
def w2 (v : Int) : WordV := ⟨v,0,0⟩
def x0 : MemM := (mnewM 2 [w2 0,w2 0]).1
def x1 : MemM := (mstoreM x0 1 0 (w2 7) false).1
def x2 : MemM := (mstoreM x1 1 1 (w2 1) true).1
end Go.Proofs.YtkmbcjnaaokilaaGreatDoor
