/-
  Layer 12 by shadows: the law's plan; the reference's sets of used blocks.
-/
import Derived.Test.YtkmbcjnaaokilaaGreatDoorK12n
namespace Go.Proofs.YtkmbcjnaaokilaaGreatDoor
set_option linter.unusedSimpArgs false
set_option linter.unusedVariables false
open Go.RowKit Go.Maps
def planA (t b : Int) : LayV := ⟨1 + t % 4,8,1 + b % 64⟩
theorem planA_ok {t b : Int} (ht : 0 ≤ t) (hb : 0 ≤ b) : checkL (planA t b) = 0 := by
 obtain ⟨i,hi⟩ : ∃ i : Nat,t % 4 = (i : Int) ∧ i < 4 := ⟨(t % 4).toNat,by omega,by omega⟩
 obtain ⟨j,hj⟩ : ∃ j : Nat,b % 64 = (j : Int) ∧ j < 64 := ⟨(b % 64).toNat,by omega,by omega⟩
 unfold planA
 rw [hi.1,hj.1]
 have : ∀ i : Nat,i < 4 → ∀ j : Nat,j < 64 → checkL ⟨1 + (i : Int),8,1 + (j : Int)⟩ = 0 := by decide +kernel
 exact this i hi.2 j hj.2
theorem ok_l12plan {t b : Int} (ht : 0 ≤ t ∧ t ≤ 255) (hb : 0 ≤ b ∧ b ≤ 255) : Ok 9 [.v (.int .u8 t),.v (.int .u8 b)] (.agg (eLay (planA t b))) := by
 refine ok_of_tr Tryz.func9 tr_l12plan rfl ?_
 have w1 : t.tmod 4 = t % 4 := by rw [Int.tmod_eq_emod_of_nonneg ht.1]
 have w2 : b.tmod 64 = b % 64 := by rw [Int.tmod_eq_emod_of_nonneg hb.1]
 have w3 : IntKind.i64.wrap (t % 4) = t % 4 := by rw [IntKind.wrap_i64]; omega
 have w4 : IntKind.i64.wrap (b % 64) = b % 64 := by rw [IntKind.wrap_i64]; omega
 have w5 : IntKind.i64.wrap (1 + t % 4) = 1 + t % 4 := by rw [IntKind.wrap_i64]; omega
 have w6 : IntKind.i64.wrap (1 + b % 64) = 1 + b % 64 := by rw [IntKind.wrap_i64]; omega
 unfold evFn sc_l12plan rv_l12plan
 have F1 := And.intro @w1 (And.intro @w2 (And.intro @w3 (And.intro @w4 (And.intro @w5 @w6))))
 refine eS fun _ hn1 _ _ => ?_;refine eO fun _ hk2 => ?_;refine tL F1 ?_;refine hk2 _ ?_;refine hn1 (some ([0,1,4],none)) _ ?_;refine eS fun _ hn3 _ _ => ?_;refine eO fun _ hk4 => ?_;refine tC 2 F1 ?_;refine tC 2 F1 ?_;refine tC 2 F1 ?_;refine tC 2 F1 ?_;refine tZ F1 ?_;refine hk4 _ ?_;refine hn3 (some ([4],none)) _ ?_
 exact sf1 F1
def withG : List Nat → Nat → Bool → List Nat
 | [],b,put => if put = true then [] else [b]
 | x :: xs,b,put => (if (!put && decide (b < x)) = true then [b] else []) ++ x :: withG xs b (put || decide (b ≤ x))
theorem withG_len : ∀ (a : List Nat) (b : Nat) (p : Bool),(withG a b p).length ≤ 2 * a.length + 1
 | [],b,p => by unfold withG; split <;> simp
 | x :: xs,b,p => by
  have := withG_len xs b (p || decide (b ≤ x))
  unfold withG
  split <;> simp <;> omega
theorem withG_put : ∀ (a : List Nat) (b : Nat),withG a b true = a
 | [],b => rfl
 | x :: xs,b => by unfold withG; simp [withG_put xs b]
theorem withG_gt (a : List Nat) (b : Nat) (h : ∀ x ∈ a,b < x) : withG a b false = b :: a := by
 cases a with
 | nil => rfl
 | cons x xs =>
  have h1 := h x (by simp)
  unfold withG
  simp [h1,Nat.le_of_lt h1,withG_put]
theorem with_range' (U : Nat → Bool) (b : Nat) : ∀ (n s : Nat),s ≤ b → b < s + n → withG ((List.range' s n).filter U) b false = (List.range' s n).filter (fun x => U x || decide (b = x))
 | 0,s,h1,h2 => by omega
 | n + 1,s,h1,h2 => by
  rw [List.range'_succ,List.filter_cons,List.filter_cons]
  have hgt : ∀ (V : Nat → Bool),s = b → ∀ x ∈ (List.range' (s + 1) n).filter V,b < x := fun V e x hx => by
   have := List.mem_range'_1.1 (List.mem_filter.1 hx).1
   omega
  by_cases e : s = b
  ·have hf : (List.range' (s + 1) n).filter (fun x => U x || decide (b = x)) = (List.range' (s + 1) n).filter U := List.filter_congr fun x hx => by
    have := List.mem_range'_1.1 hx
    rw [decide_eq_false (show ¬ b = x by omega),Bool.or_false]
   rw [hf]
   cases hu : U s
   ·rw [if_neg (by simp),if_pos (by simp [e]),withG_gt _ _ (hgt U e),e]
   ·rw [if_pos rfl,if_pos (by simp)]
    unfold withG
    rw [decide_eq_false (show ¬ b < s by omega),decide_eq_true (show b ≤ s by omega)]
    simp [withG_put]
  ·have ih := with_range' U b n (s + 1) (by omega) (by omega)
   have d1 : decide (b = s) = false := decide_eq_false (by omega)
   cases hu : U s
   ·rw [if_neg (by simp),if_neg (by simp [d1]),ih]
   ·rw [if_pos rfl,if_pos (by simp)]
    unfold withG
    rw [decide_eq_false (show ¬ b < s by omega),decide_eq_false (show ¬ b ≤ s by omega)]
    simp [ih]
theorem with_range (U : Nat → Bool) {B b : Nat} (h : b < B) : withG ((List.range B).filter U) b false = (List.range B).filter (fun x => U x || decide (b = x)) := by
 rw [List.range_eq_range']
 exact with_range' U b B 0 (by omega) (by omega)
def WiInv (g : Nat) (a : List Nat) (b : Nat) (k : Nat) (S : St) : Prop :=
 ∃ (i : Nat) (out : List Nat) (p : Bool),i ≤ a.length ∧ k = a.length - i ∧ out ++ withG (a.drop i) b p = withG a b false ∧ S = ⟨[(0,.sl 1 g (a.map eU)),(1,sI b),(5,.own 0),(6,sB p),(7,sI i)],[(0,.row 3 1 (out.map eU))],1⟩
set_option maxHeartbeats 4000000 in
theorem ok_r12With (g : Nat) (a : List Nat) (b : Nat) (hn : a.length ≤ 1000000) : Ok 16 [.sl 1 g (a.map eU),sI b] (.sl 1 0 ((withG a b false).map eU)) := by
 refine ok_of_tr Tryz.func16 tr_r12With rfl ?_
 have hlen := withG_len a b false
 unfold evFn sc_r12With rv_r12With
 refine eS fun _ hn1 _ _ => ?_;refine eO fun _ hk2 => ?_;refine tL0 ?_;refine hk2 _ ?_;refine hn1 (some ([0,1],none)) _ ?_;refine eS fun _ hn3 _ _ => ?_;refine eO fun _ hk4 => ?_;refine tL0 ?_;refine hk4 _ ?_;refine hn3 (some ([0,1,5],none)) _ ?_;refine eS fun _ hn5 _ _ => ?_;refine eO fun _ hk6 => ?_;refine tL0 ?_;refine hk6 _ ?_;refine hn5 (some ([0,1,5,6],none)) _ ?_;refine eS fun _ hn7 _ _ => ?_;refine eS fun _ hn8 _ _ => ?_;refine eO fun _ hk9 => ?_;refine tL0 ?_;refine hk9 _ ?_;refine hn8 (some ([0,1,5,6,7],none)) _ ?_;refine eB fun _ _ hx10 _ _ => ?_;refine eW (WiInv g a b) (a.length) (some ([0,1,5,6,7],some ([0],1))) ([.slot 5 (some 3) 1]) ?_ ?_
 ·try refine lp0 ?_
  exact ⟨0,[],false,by omega,by omega,by rw [List.drop_zero]; rfl,by rfl⟩
 ·intro k S1 hI
  obtain ⟨i,out,p,hi,rfl,ho,rfl⟩ := hI
  have hol : out.length ≤ 2 * a.length + 1 := by have := congrArg List.length ho; rw [List.length_append] at this; omega
  have w6 : out.length + 1 ≤ 140737488355328 := by omega
  have w7 : (out.length + 1) * 8 ≤ 140737488355328 := by omega
  have w8 : out.length + 1 + 1 ≤ 140737488355328 := by omega
  have w9 : (out.length + 1 + 1) * 8 ≤ 140737488355328 := by omega
  have hcase : (i = a.length ∧ p = true) ∨ (i = a.length ∧ p = false) ∨ ∃ x,a[i]? = some x ∧ a.drop i = x :: a.drop (i + 1) ∧ ((p = true ∧ x = b) ∨ (p = true ∧ x ≠ b) ∨ (p = false ∧ b < x) ∨ (p = false ∧ x = b) ∨ (p = false ∧ x < b)) := by
   rcases Nat.lt_or_ge i a.length with h | h
   ·refine .inr (.inr ⟨_,List.getElem?_eq_getElem h,List.drop_eq_getElem_cons h,?_⟩)
    cases p
    ·rcases Nat.lt_trichotomy a[i] b with h2 | h2 | h2
     ·exact .inr (.inr (.inr (.inr ⟨rfl,h2⟩)))
     ·exact .inr (.inr (.inr (.inl ⟨rfl,h2⟩)))
     ·exact .inr (.inr (.inl ⟨rfl,h2⟩))
    ·by_cases h2 : a[i] = b
     ·exact .inl ⟨rfl,h2⟩
     ·exact .inr (.inl ⟨rfl,h2⟩)
   ·cases p
    ·exact .inr (.inl ⟨by omega,rfl⟩)
    ·exact .inl ⟨by omega,rfl⟩
  intro _ hn11 _ he11
  rcases hcase with ⟨hcc,rfl⟩ | ⟨hcc,rfl⟩ | ⟨x,hx1,hd,⟨rfl,rfl⟩ | ⟨rfl,hne⟩ | ⟨rfl,hlt2⟩ | ⟨rfl,rfl⟩ | ⟨rfl,hlt2⟩⟩
  ·skip
   have w2 : ¬ (i : Int) < (a.length : Int) := by omega
   have e1 : withG a b false = out := by rw [← ho,hcc,List.drop_length]; unfold withG; rw [if_pos rfl,List.append_nil]
   have F1 := And.intro @w2 @e1
   refine eS fun _ _ _ he12 => ?_;refine eS fun _ hn13 _ _ => ?_;refine eO fun _ hk14 => ?_;refine tS 3 F1 ?_;refine tZ F1 ?_;refine hk14 _ ?_;refine hn13 (some ([0,1,5,6,7,11],none)) _ ?_;refine eCf ?_;refine he12 0 _ ?_;refine he11 0 _ ?_;refine hx10 _ ?_;refine hn7 (some ([1,5,6],none)) _ ?_;refine eS fun _ hn15 _ _ => ?_;refine eS fun _ hn16 _ _ => ?_;refine eO fun _ hk17 => ?_;refine tL F1 ?_;refine hk17 _ ?_;refine hn16 (some ([1,5,42],none)) _ ?_;refine eCf ?_;refine hn15 (some ([5],none)) _ ?_;refine eS fun _ hn18 _ _ => ?_;refine eO fun _ hk19 => ?_;refine tL F1 ?_;refine hk19 _ ?_;refine hn18 (some ([4],none)) _ ?_
   exact sf1 F1
  ·skip
   have w2 : ¬ (i : Int) < (a.length : Int) := by omega
   have e1 : (withG a b false).map eU = out.map eU ++ [[sI b]] := by rw [← ho,hcc,List.drop_length]; unfold withG; rw [if_neg (by simp),List.map_append]; rfl
   have F2 := And.intro @w2 (And.intro @e1 (And.intro @w6 @w7))
   refine eS fun _ _ _ he20 => ?_;refine eS fun _ hn21 _ _ => ?_;refine eO fun _ hk22 => ?_;refine tS 3 F2 ?_;refine tZ F2 ?_;refine hk22 _ ?_;refine hn21 (some ([0,1,5,6,7,11],none)) _ ?_;refine eCf ?_;refine he20 0 _ ?_;refine he11 0 _ ?_;refine hx10 _ ?_;refine hn7 (some ([1,5,6],none)) _ ?_;refine eS fun _ hn23 _ _ => ?_;refine eS fun _ hn24 _ _ => ?_;refine eO fun _ hk25 => ?_;refine tL F2 ?_;refine hk25 _ ?_;refine hn24 (some ([1,5,42],none)) _ ?_;refine eCt ?_;refine eO fun _ hk26 => ?_;refine tC 3 F2 ?_;refine tC 1 F2 ?_;refine tL F2 ?_;refine hk26 _ ?_;refine hn23 (some ([5],none)) _ ?_;refine eS fun _ hn27 _ _ => ?_;refine eO fun _ hk28 => ?_;refine tL F2 ?_;refine hk28 _ ?_;refine hn27 (some ([4],none)) _ ?_
   exact sf1 F2
  ·skip
   have hlt := (List.getElem?_eq_some_iff.1 hx1).1
   have w2 : (i : Int) < (a.length : Int) := by omega
   have w3 : IntKind.i64.wrap ((i : Int) + 1) = ((i + 1 : Nat) : Int) := by rw [IntKind.wrap_i64]; omega
   have hw : (out ++ [x]) ++ withG (a.drop (i + 1)) x true = withG a x false := by
    rw [← ho,hd]
    conv => rhs; unfold withG
    simp
   have F3 := And.intro @w2 (And.intro @w3 (And.intro @hx1 (And.intro @w6 (And.intro @w7 (And.intro @w8 @w9)))))
   refine eS fun _ hn29 _ _ => ?_;refine eS fun _ hn30 _ _ => ?_;refine eO fun _ hk31 => ?_;refine tS 3 F3 ?_;refine tZ F3 ?_;refine hk31 _ ?_;refine hn30 (some ([0,1,5,6,7,11],none)) _ ?_;refine eCt ?_;refine hn29 (some ([0,1,5,6,7],none)) _ ?_;refine eS fun _ hn32 _ _ => ?_;refine eB fun _ hn33 _ _ _ => ?_;refine eS fun _ hn34 _ _ => ?_;refine eS fun _ hn35 _ _ => ?_;refine eO fun _ hk36 => ?_;refine tS 3 F3 ?_;refine tC 3 F3 ?_;refine tC 1 F3 ?_;refine tC 2 F3 ?_;refine tL F3 ?_;refine hk36 _ ?_;refine hn35 (some ([0,1,5,6,7,23],none)) _ ?_;refine eCf ?_;refine hn34 (some ([0,1,5,6,7],none)) _ ?_;refine eS fun _ hn37 _ _ => ?_;refine eS fun _ hn38 _ _ => ?_;refine eO fun _ hk39 => ?_;refine tC 3 F3 ?_;refine tC 1 F3 ?_;refine tZ F3 ?_;refine hk39 _ ?_;refine hn38 (some ([0,1,5,6,7,33],none)) _ ?_;refine eCt ?_;refine eO fun _ hk40 => ?_;refine tL F3 ?_;refine hk40 _ ?_;refine hn37 (some ([0,1,5,6,7],none)) _ ?_
   refine eO fun _ hk41 => ?_;refine tS 3 F3 ?_;refine tC 1 F3 ?_;refine tC 1 F3 ?_;refine tC 1 F3 ?_;refine tC 1 F3 ?_;refine tL F3 ?_;refine hk41 _ ?_;refine hn33 _ ?_;refine hn32 (some ([0,1,5,6,7],none)) _ ?_;refine eO fun _ hk42 => ?_;refine tC 2 F3 ?_;refine tL F3 ?_;refine hk42 _ ?_;refine hn11 (a.length - (i + 1)) (some ([0,1,5,6,7],some ([1],1))) _ ?_ ?_
   all_goals try refine lp0 ?_
   ·omega
   ·exact ⟨i + 1,_,_,by omega,rfl,hw,by rw [List.map_append]; rfl⟩
  ·skip
   have hlt := (List.getElem?_eq_some_iff.1 hx1).1
   have w2 : (i : Int) < (a.length : Int) := by omega
   have w3 : IntKind.i64.wrap ((i : Int) + 1) = ((i + 1 : Nat) : Int) := by rw [IntKind.wrap_i64]; omega
   have w4 : ((x : Int) == (b : Int)) = false := by rw [beq_eq_false_iff_ne]; omega
   have hw : (out ++ [x]) ++ withG (a.drop (i + 1)) b true = withG a b false := by
    rw [← ho,hd]
    conv => rhs; unfold withG
    simp
   have F4 := And.intro @w2 (And.intro @w3 (And.intro @hx1 (And.intro @w6 (And.intro @w7 (And.intro @w8 (And.intro @w9 @w4))))))
   refine eS fun _ hn43 _ _ => ?_;refine eS fun _ hn44 _ _ => ?_;refine eO fun _ hk45 => ?_;refine tS 3 F4 ?_;refine tZ F4 ?_;refine hk45 _ ?_;refine hn44 (some ([0,1,5,6,7,11],none)) _ ?_;refine eCt ?_;refine hn43 (some ([0,1,5,6,7],none)) _ ?_;refine eS fun _ hn46 _ _ => ?_;refine eB fun _ hn47 _ _ _ => ?_;refine eS fun _ hn48 _ _ => ?_;refine eS fun _ hn49 _ _ => ?_;refine eO fun _ hk50 => ?_;refine tS 3 F4 ?_;refine tC 3 F4 ?_;refine tC 1 F4 ?_;refine tC 2 F4 ?_;refine tL F4 ?_;refine hk50 _ ?_;refine hn49 (some ([0,1,5,6,7,23],none)) _ ?_;refine eCf ?_;refine hn48 (some ([0,1,5,6,7],none)) _ ?_;refine eS fun _ hn51 _ _ => ?_;refine eS fun _ hn52 _ _ => ?_;refine eO fun _ hk53 => ?_;refine tC 3 F4 ?_;refine tC 1 F4 ?_;refine tZ F4 ?_;refine hk53 _ ?_;refine hn52 (some ([0,1,5,6,7,33],none)) _ ?_;refine eCf ?_;refine hn51 (some ([0,1,5,6,7],none)) _ ?_;refine eO fun _ hk54 => ?_
   refine tS 3 F4 ?_;refine tC 1 F4 ?_;refine tC 1 F4 ?_;refine tC 1 F4 ?_;refine tC 1 F4 ?_;refine tL F4 ?_;refine hk54 _ ?_;refine hn47 _ ?_;refine hn46 (some ([0,1,5,6,7],none)) _ ?_;refine eO fun _ hk55 => ?_;refine tC 2 F4 ?_;refine tL F4 ?_;refine hk55 _ ?_;refine hn11 (a.length - (i + 1)) (some ([0,1,5,6,7],some ([1],1))) _ ?_ ?_
   all_goals try refine lp0 ?_
   ·omega
   ·exact ⟨i + 1,_,_,by omega,rfl,hw,by rw [List.map_append]; rfl⟩
  ·skip
   have hlt := (List.getElem?_eq_some_iff.1 hx1).1
   have w2 : (i : Int) < (a.length : Int) := by omega
   have w3 : IntKind.i64.wrap ((i : Int) + 1) = ((i + 1 : Nat) : Int) := by rw [IntKind.wrap_i64]; omega
   have w4 : ((x : Int) == (b : Int)) = false := by rw [beq_eq_false_iff_ne]; omega
   have w5 : (b : Int) < (x : Int) := by omega
   have hw : (out ++ [b] ++ [x]) ++ withG (a.drop (i + 1)) b true = withG a b false := by
    rw [← ho,hd]
    conv => rhs; unfold withG
    simp [hlt2,Nat.le_of_lt hlt2]
   have F5 := And.intro @w2 (And.intro @w3 (And.intro @hx1 (And.intro @w6 (And.intro @w7 (And.intro @w8 (And.intro @w9 (And.intro @w4 @w5)))))))
   refine eS fun _ hn56 _ _ => ?_;refine eS fun _ hn57 _ _ => ?_;refine eO fun _ hk58 => ?_;refine tS 3 F5 ?_;refine tZ F5 ?_;refine hk58 _ ?_;refine hn57 (some ([0,1,5,6,7,11],none)) _ ?_;refine eCt ?_;refine hn56 (some ([0,1,5,6,7],none)) _ ?_;refine eS fun _ hn59 _ _ => ?_;refine eB fun _ hn60 _ _ _ => ?_;refine eS fun _ hn61 _ _ => ?_;refine eS fun _ hn62 _ _ => ?_;refine eO fun _ hk63 => ?_;refine tS 3 F5 ?_;refine tC 3 F5 ?_;refine tC 1 F5 ?_;refine tC 2 F5 ?_;refine tL F5 ?_;refine hk63 _ ?_;refine hn62 (some ([0,1,5,6,7,23],none)) _ ?_;refine eCt ?_;refine eS fun _ hn64 _ _ => ?_;refine eO fun _ hk65 => ?_;refine tC 3 F5 ?_;refine tC 1 F5 ?_;refine tL F5 ?_;refine hk65 _ ?_;refine hn64 (some ([0,1,5,7],none)) _ ?_;refine eO fun _ hk66 => ?_;refine tL F5 ?_;refine hk66 _ ?_;refine hn61 (some ([0,1,5,6,7],none)) _ ?_;refine eS fun _ hn67 _ _ => ?_;refine eS fun _ hn68 _ _ => ?_
   refine eO fun _ hk69 => ?_;refine tC 3 F5 ?_;refine tC 1 F5 ?_;refine tZ F5 ?_;refine hk69 _ ?_;refine hn68 (some ([0,1,5,6,7,33],none)) _ ?_;refine eCf ?_;refine hn67 (some ([0,1,5,6,7],none)) _ ?_;refine eO fun _ hk70 => ?_;refine tS 3 F5 ?_;refine tC 1 F5 ?_;refine tC 1 F5 ?_;refine tC 1 F5 ?_;refine tC 1 F5 ?_;refine tL F5 ?_;refine hk70 _ ?_;refine hn60 _ ?_;refine hn59 (some ([0,1,5,6,7],none)) _ ?_;refine eO fun _ hk71 => ?_;refine tC 2 F5 ?_;refine tL F5 ?_;refine hk71 _ ?_;refine hn11 (a.length - (i + 1)) (some ([0,1,5,6,7],some ([2],1))) _ ?_ ?_
   all_goals try refine lp0 ?_
   ·omega
   ·exact ⟨i + 1,_,_,by omega,rfl,hw,by rw [List.map_append,List.map_append]; rfl⟩
  ·skip
   have hlt := (List.getElem?_eq_some_iff.1 hx1).1
   have w2 : (i : Int) < (a.length : Int) := by omega
   have w3 : IntKind.i64.wrap ((i : Int) + 1) = ((i + 1 : Nat) : Int) := by rw [IntKind.wrap_i64]; omega
   have w5 : ¬ (x : Int) < (x : Int) := by omega
   have hw : (out ++ [x]) ++ withG (a.drop (i + 1)) x true = withG a x false := by
    rw [← ho,hd]
    conv => rhs; unfold withG
    simp
   have F6 := And.intro @w2 (And.intro @w3 (And.intro @hx1 (And.intro @w6 (And.intro @w7 (And.intro @w8 (And.intro @w9 @w5))))))
   refine eS fun _ hn72 _ _ => ?_;refine eS fun _ hn73 _ _ => ?_;refine eO fun _ hk74 => ?_;refine tS 3 F6 ?_;refine tZ F6 ?_;refine hk74 _ ?_;refine hn73 (some ([0,1,5,6,7,11],none)) _ ?_;refine eCt ?_;refine hn72 (some ([0,1,5,6,7],none)) _ ?_;refine eS fun _ hn75 _ _ => ?_;refine eB fun _ hn76 _ _ _ => ?_;refine eS fun _ hn77 _ _ => ?_;refine eS fun _ hn78 _ _ => ?_;refine eO fun _ hk79 => ?_;refine tS 3 F6 ?_;refine tC 3 F6 ?_;refine tC 1 F6 ?_;refine tC 2 F6 ?_;refine tL F6 ?_;refine hk79 _ ?_;refine hn78 (some ([0,1,5,6,7,23],none)) _ ?_;refine eCf ?_;refine hn77 (some ([0,1,5,6,7],none)) _ ?_;refine eS fun _ hn80 _ _ => ?_;refine eS fun _ hn81 _ _ => ?_;refine eO fun _ hk82 => ?_;refine tC 3 F6 ?_;refine tC 1 F6 ?_;refine tZ F6 ?_;refine hk82 _ ?_;refine hn81 (some ([0,1,5,6,7,33],none)) _ ?_;refine eCt ?_;refine eO fun _ hk83 => ?_;refine tL F6 ?_;refine hk83 _ ?_;refine hn80 (some ([0,1,5,6,7],none)) _ ?_
   refine eO fun _ hk84 => ?_;refine tS 3 F6 ?_;refine tC 1 F6 ?_;refine tC 1 F6 ?_;refine tC 1 F6 ?_;refine tC 1 F6 ?_;refine tL F6 ?_;refine hk84 _ ?_;refine hn76 _ ?_;refine hn75 (some ([0,1,5,6,7],none)) _ ?_;refine eO fun _ hk85 => ?_;refine tC 2 F6 ?_;refine tL F6 ?_;refine hk85 _ ?_;refine hn11 (a.length - (i + 1)) (some ([0,1,5,6,7],some ([1],1))) _ ?_ ?_
   all_goals try refine lp0 ?_
   ·omega
   ·exact ⟨i + 1,_,_,by omega,rfl,hw,by rw [List.map_append]; rfl⟩
  ·skip
   have hlt := (List.getElem?_eq_some_iff.1 hx1).1
   have w2 : (i : Int) < (a.length : Int) := by omega
   have w3 : IntKind.i64.wrap ((i : Int) + 1) = ((i + 1 : Nat) : Int) := by rw [IntKind.wrap_i64]; omega
   have w4 : ((x : Int) == (b : Int)) = false := by rw [beq_eq_false_iff_ne]; omega
   have w5 : ¬ (b : Int) < (x : Int) := by omega
   have hw : (out ++ [x]) ++ withG (a.drop (i + 1)) b false = withG a b false := by
    rw [← ho,hd]
    conv => rhs; unfold withG
    simp [Nat.not_le.2 hlt2,Nat.not_lt.2 (Nat.le_of_lt hlt2)]
   have F7 := And.intro @w2 (And.intro @w3 (And.intro @hx1 (And.intro @w6 (And.intro @w7 (And.intro @w8 (And.intro @w9 (And.intro @w4 @w5)))))))
   refine eS fun _ hn86 _ _ => ?_;refine eS fun _ hn87 _ _ => ?_;refine eO fun _ hk88 => ?_;refine tS 3 F7 ?_;refine tZ F7 ?_;refine hk88 _ ?_;refine hn87 (some ([0,1,5,6,7,11],none)) _ ?_;refine eCt ?_;refine hn86 (some ([0,1,5,6,7],none)) _ ?_;refine eS fun _ hn89 _ _ => ?_;refine eB fun _ hn90 _ _ _ => ?_;refine eS fun _ hn91 _ _ => ?_;refine eS fun _ hn92 _ _ => ?_;refine eO fun _ hk93 => ?_;refine tS 3 F7 ?_;refine tC 3 F7 ?_;refine tC 1 F7 ?_;refine tC 2 F7 ?_;refine tL F7 ?_;refine hk93 _ ?_;refine hn92 (some ([0,1,5,6,7,23],none)) _ ?_;refine eCf ?_;refine hn91 (some ([0,1,5,6,7],none)) _ ?_;refine eS fun _ hn94 _ _ => ?_;refine eS fun _ hn95 _ _ => ?_;refine eO fun _ hk96 => ?_;refine tC 3 F7 ?_;refine tC 1 F7 ?_;refine tZ F7 ?_;refine hk96 _ ?_;refine hn95 (some ([0,1,5,6,7,33],none)) _ ?_;refine eCf ?_;refine hn94 (some ([0,1,5,6,7],none)) _ ?_;refine eO fun _ hk97 => ?_
   refine tS 3 F7 ?_;refine tC 1 F7 ?_;refine tC 1 F7 ?_;refine tC 1 F7 ?_;refine tC 1 F7 ?_;refine tL F7 ?_;refine hk97 _ ?_;refine hn90 _ ?_;refine hn89 (some ([0,1,5,6,7],none)) _ ?_;refine eO fun _ hk98 => ?_;refine tC 2 F7 ?_;refine tL F7 ?_;refine hk98 _ ?_;refine hn11 (a.length - (i + 1)) (some ([0,1,5,6,7],some ([1],1))) _ ?_ ?_
   all_goals try refine lp0 ?_
   ·omega
   ·exact ⟨i + 1,_,_,by omega,rfl,hw,by rw [List.map_append]; rfl⟩
end Go.Proofs.YtkmbcjnaaokilaaGreatDoor
