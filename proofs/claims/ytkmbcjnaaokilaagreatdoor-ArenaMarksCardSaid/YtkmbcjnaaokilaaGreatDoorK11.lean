/-
  Layer 11 by shadows: layouts.
-/
import Derived.Test.YtkmbcjnaaokilaaGreatDoorMC
import Derived.Test.YtkmbcjnaaokilaaGreatDoorMK12
namespace Go.Proofs.YtkmbcjnaaokilaaGreatDoor
set_option linter.unusedSimpArgs false
set_option linter.unusedVariables false
open Go.RowKit Go.Maps
structure LayV where
 threads : Int
 cells : Int
 blocks : Int
abbrev eLay (l : LayV) : List Sh := [sI l.threads,sI l.cells,sI l.blocks]
def RangeL (l : LayV) : Prop := (1 ≤ l.threads ∧ l.threads ≤ 8) ∧ (1 ≤ l.cells ∧ l.cells ≤ 2048) ∧ (0 ≤ l.blocks ∧ l.blocks ≤ 64)
instance (l : LayV) : Decidable (RangeL l) := by unfold RangeL; infer_instance
def manyL (l : LayV) : Nat → Int
 | 0 => 1 | 1 => l.threads | 2 => l.threads | 3 => l.cells | 4 => l.threads | 5 => l.blocks | 6 => l.blocks | _ => 0
def sizeL : Nat → Int
 | 0 => 8 | 1 => 8 | 2 => 8 | 3 => 1 | 4 => 104 | 5 => 0 | 6 => 32 | _ => 0
def longL (l : LayV) (p : Nat) : Int := ((if sizeL p = 0 ∧ 0 < manyL l p then 8 else manyL l p * sizeL p) + 7) / 8 * 8
def fromL (l : LayV) : Nat → Int
 | 0 => 0
 | p + 1 => fromL l p + longL l p
def checkL (l : LayV) : Int := if RangeL l then (if 4096 < fromL l 7 then 19 else 0) else 3
def sizeofL (l : LayV) : Int := if checkL l = 0 then fromL l 7 else 0
def atL (l : LayV) (p : Nat) (i more : Int) : Int := if checkL l = 0 ∧ 0 ≤ i ∧ i < manyL l p then fromL l p + i * sizeL p + more else -1
theorem many_le {l : LayV} (h : RangeL l) (p : Nat) : 0 ≤ manyL l p ∧ manyL l p ≤ 2048 := by
 obtain ⟨⟨a,b⟩,⟨c,d⟩,e,f⟩ := h
 unfold manyL; split <;> omega
theorem size_le (p : Nat) : 0 ≤ sizeL p ∧ sizeL p ≤ 104 := by unfold sizeL; split <;> omega
theorem long_le {l : LayV} (h : RangeL l) (p : Nat) : 0 ≤ longL l p ∧ longL l p ≤ 213000 := by
 obtain ⟨a,b⟩ := many_le h p
 obtain ⟨c,d⟩ := size_le p
 have h1 : 0 ≤ manyL l p * sizeL p := Int.mul_nonneg a c
 have h2 : manyL l p * sizeL p ≤ 2048 * 104 := Int.mul_le_mul b d c (by omega)
 unfold longL
 split <;> omega
theorem from_le {l : LayV} (h : RangeL l) : ∀ p,0 ≤ fromL l p ∧ fromL l p ≤ 213000 * p
 | 0 => ⟨Int.le_refl _,by show (0 : Int) ≤ 213000 * (0 : Nat); decide⟩
 | p + 1 => by
  have ih := from_le h p
  have := long_le h p
  unfold fromL
  omega
theorem checkL_zero {l : LayV} (h : checkL l = 0) : RangeL l ∧ fromL l 7 ≤ 4096 := by
 unfold checkL at h
 split at h
 ·rename_i h1
  split at h
  ·cases h
  ·exact ⟨h1,by omega⟩
 ·cases h
theorem infoInt' : (Tryz.prog.info? 3).map (fun i => (i.zero,i.size,i.bytes)) = some (some (.int .i64 0),1,8) := by kernel_rfl
set_option maxHeartbeats 2000000 in
theorem ok_layMany (l : LayV) (p : Nat) (hp : p < 7) : Ok 79 [.agg (eLay l),sI p] (sI (manyL l p)) := by
 refine ok_of_tr Tryz.func79 tr_layMany rfl ?_
 have ka : ∀ w,(isAgg 3).run Tryz.prog w = .ok false w := Tryz.isAgg3
 obtain ⟨iF,hiF,_,hsF,_⟩ := info_parts infoInt'
 have hg : [sI 1,sI l.threads,sI l.threads,sI l.cells,sI l.threads,sI l.blocks,sI l.blocks][p]? = some (sI (manyL l p)) :=
  match p,hp with
  | 0,_ => rfl | 1,_ => rfl | 2,_ => rfl | 3,_ => rfl | 4,_ => rfl | 5,_ => rfl | 6,_ => rfl
 generalize manyL l p = m at hg
 unfold evFn sc_layMany rv_layMany
 refine eS fun _ hn1 _ _ => ?_;refine eO fun _ hk2 => ?_;refine tL0 ?_;refine hk2 _ ?_;refine hn1 (some ([1,2],none)) _ ?_;refine eS fun _ hn3 _ _ => ?_;refine eO fun _ hk4 => ?_;refine tC0 2 ?_;refine tC0 2 ?_;refine tC0 2 ?_;refine tC0 2 ?_;refine tC0 2 ?_;refine tC0 2 ?_;refine tS0 2 ?_;refine tS0 1 ?_;refine Or.inl ⟨_,gen_index1 (n := (p : Int)) Tryz.underlying147 hiF hsF ka (by omega) (by omega) (by rw [Int.toNat_natCast]; exact hg),?_⟩;refine tL0 ?_;refine hk4 _ ?_;refine hn3 (some ([4],none)) _ ?_
 exact sf0
theorem gSizes_sh : (gTab.lookup 0).map (fun vs => Sh.fp (vs.map Sh.v) 0) = some (.fp [sI 8,sI 8,sI 8,sI 1,sI 104,sI 0,sI 32] 0) := rfl
set_option maxHeartbeats 4000000 in
theorem ok_layLong (l : LayV) (p : Nat) (hp : p < 7) (hl : RangeL l) : Ok 78 [.agg (eLay l),sI p] (sI (longL l p)) := by
 refine ok_of_tr Tryz.func78 tr_layLong rfl ?_
 have k0 := ok_layMany l p hp
 have hm := many_le hl p
 have hs := size_le p
 have hg : [sI 8,sI 8,sI 8,sI 1,sI 104,sI 0,sI 32][p]? = some (sI (sizeL p)) :=
  match p,hp with
  | 0,_ => rfl | 1,_ => rfl | 2,_ => rfl | 3,_ => rfl | 4,_ => rfl | 5,_ => rfl | 6,_ => rfl
 have e0 : (0 : Nat) + p * 1 = p := by omega
 have e0' : (0 : Nat) + p = p := by omega
 have h1 : 0 ≤ manyL l p * sizeL p := Int.mul_nonneg hm.1 hs.1
 have h2 : manyL l p * sizeL p ≤ 2048 * 104 := Int.mul_le_mul hm.2 hs.2 hs.1 (by omega)
 have gs := gSizes_sh
 have p7 : (p : Int) < 7 := by omega
 unfold longL
 generalize manyL l p = m at *
 generalize sizeL p = s at *
 have w1 : IntKind.i64.wrap (m * s) = m * s := by rw [IntKind.wrap_i64]; omega
 have w2 : ∀ x : Int,0 ≤ x → x ≤ 212992 → IntKind.i64.wrap (x + 8) = x + 8 := fun x _ _ => by rw [IntKind.wrap_i64]; omega
 have w3 : ∀ x : Int,0 ≤ x → x ≤ 212992 → IntKind.i64.wrap (x + 8 - 1) = x + 7 := fun x _ _ => by rw [IntKind.wrap_i64]; omega
 have w4 : ∀ x : Int,0 ≤ x → x ≤ 212992 → IntKind.i64.wrap ((x + 7).tdiv 8) = (x + 7) / 8 := fun x _ _ => by rw [IntKind.wrap_i64,Int.tdiv_eq_ediv_of_nonneg (by omega)]; omega
 have w5 : ∀ x : Int,0 ≤ x → x ≤ 212992 → IntKind.i64.wrap ((x + 7) / 8 * 8) = (x + 7) / 8 * 8 := fun x _ _ => by rw [IntKind.wrap_i64]; omega
 have z8 : ¬ (8 : Int) = 0 := by decide
 by_cases hz : s = 0
 ·subst hz
  by_cases h0 : 0 < m
  ·rw [if_pos ⟨rfl,h0⟩]
   unfold evFn sc_layLong rv_layLong
   have F1 := And.intro @gs (And.intro @hg (And.intro @e0 (And.intro @e0' (And.intro @p7 (And.intro @w1 (And.intro @h0 @z8))))))
   refine eS fun K1 hn1 hr1 he1 => ?_;refine eO fun K2 hk2 => ?_;refine tL F1 ?_;refine hk2 _ ?_;refine hn1 (some ([1,2],none)) _ ?_;refine eS fun K3 hn3 hr3 he3 => ?_;refine eD [] (n := 6) fun K4 hk4 => ?_;refine sq0 ?_;refine fC 1 F1 ?_;refine fS 1 F1 ?_;refine fS 1 F1 ?_;refine ⟨_,k0,?_⟩;refine fC 2 F1 ?_;refine fZ F1 ?_;refine hk4 _ ?_;refine sr0 ?_;refine tC 1 F1 ?_;refine tL F1 ?_;refine hn3 (some ([1,2,5],none)) _ ?_;refine eS fun K6 hn6 hr6 he6 => ?_;refine eS fun K7 hn7 hr7 he7 => ?_;refine eO fun K8 hk8 => ?_;refine tC 2 F1 ?_;refine tC 1 F1 ?_;refine tC 1 F1 ?_;refine tC 2 F1 ?_;refine tS 1 F1 ?_;refine tS 1 F1 ?_;refine Or.inl (Or.inl ⟨_,k0,?_⟩);refine tC 1 F1 ?_;refine tL F1 ?_;refine hk8 _ ?_;refine hn7 (some ([5,22],none)) _ ?_;refine eCt ?_;refine eO fun K9 hk9 => ?_;refine tL F1 ?_;refine hk9 _ ?_;refine hn6 (some ([5],none)) _ ?_;refine eS fun K10 hn10 _ _ => ?_
   refine eO fun _ hk11 => ?_;refine tC 2 F1 ?_;refine tC 1 F1 ?_;refine tC 1 F1 ?_;refine tC 1 F1 ?_;refine tL F1 ?_;refine hk11 _ ?_;refine hn10 (some ([4],none)) _ ?_;refine sg1 F1 ?_
   rfl
  ·have hm0 : m = 0 := by omega
   subst hm0
   rw [if_neg (by simp)]
   unfold evFn sc_layLong rv_layLong
   have F1 := And.intro @gs (And.intro @hg (And.intro @e0 (And.intro @e0' (And.intro @p7 (And.intro @w1 (And.intro @h0 @z8))))))
   refine eS fun K1 hn1 hr1 he1 => ?_;refine eO fun K2 hk2 => ?_;refine tL F1 ?_;refine hk2 _ ?_;refine hn1 (some ([1,2],none)) _ ?_;refine eS fun K3 hn3 hr3 he3 => ?_;refine eD [] (n := 6) fun K4 hk4 => ?_;refine sq0 ?_;refine fC 1 F1 ?_;refine fS 1 F1 ?_;refine fS 1 F1 ?_;refine ⟨_,k0,?_⟩;refine fC 2 F1 ?_;refine fZ F1 ?_;refine hk4 _ ?_;refine sr0 ?_;refine tC 1 F1 ?_;refine tL F1 ?_;refine hn3 (some ([1,2,5],none)) _ ?_;refine eS fun K6 hn6 hr6 he6 => ?_;refine eS fun K7 hn7 hr7 he7 => ?_;refine eO fun K8 hk8 => ?_;refine tC 2 F1 ?_;refine tC 1 F1 ?_;refine tC 1 F1 ?_;refine tC 2 F1 ?_;refine tS 1 F1 ?_;refine tS 1 F1 ?_;refine Or.inl (Or.inl ⟨_,k0,?_⟩);refine tC 1 F1 ?_;refine tL F1 ?_;refine hk8 _ ?_;refine hn7 (some ([5,22],none)) _ ?_;refine eCf ?_;refine hn6 (some ([5],none)) _ ?_;refine eS fun K9 hn9 hr9 he9 => ?_;refine eO fun K10 hk10 => ?_;refine tC 2 F1 ?_;refine tC 1 F1 ?_
   refine tC 1 F1 ?_;refine tC 1 F1 ?_;refine tL F1 ?_;refine hk10 _ ?_;refine hn9 (some ([4],none)) _ ?_;refine sg1 F1 ?_
   rfl
 ·rw [if_neg (fun h => hz h.1)]
  have d : (s == 0) = false := by simpa using hz
  have a2 := w2 (m * s) h1 (by omega)
  have a3 := w3 (m * s) h1 (by omega)
  have a4 := w4 (m * s) h1 (by omega)
  have a5 := w5 (m * s) h1 (by omega)
  unfold evFn sc_layLong rv_layLong
  have F1 := And.intro @gs (And.intro @hg (And.intro @e0 (And.intro @e0' (And.intro @p7 (And.intro @w1 (And.intro @d (And.intro @z8 (And.intro @a2 (And.intro @a3 (And.intro @a4 @a5))))))))))
  refine eS fun K1 hn1 hr1 he1 => ?_;refine eO fun K2 hk2 => ?_;refine tL F1 ?_;refine hk2 _ ?_;refine hn1 (some ([1,2],none)) _ ?_;refine eS fun K3 hn3 hr3 he3 => ?_;refine eD [] (n := 6) fun K4 hk4 => ?_;refine sq0 ?_;refine fC 1 F1 ?_;refine fS 1 F1 ?_;refine fS 1 F1 ?_;refine ⟨_,k0,?_⟩;refine fC 2 F1 ?_;refine fZ F1 ?_;refine hk4 _ ?_;refine sr0 ?_;refine tC 1 F1 ?_;refine tL F1 ?_;refine hn3 (some ([1,2,5],none)) _ ?_;refine eS fun K6 hn6 hr6 he6 => ?_;refine eS fun K7 hn7 hr7 he7 => ?_;refine eO fun K8 hk8 => ?_;refine tC 2 F1 ?_;refine tC 1 F1 ?_;refine tC 1 F1 ?_;refine tC 2 F1 ?_;refine tS 1 F1 ?_;refine tS 1 F1 ?_
  skip
  refine tC 1 F1 ?_;refine tL F1 ?_;refine hk8 _ ?_;refine hn7 (some ([5,22],none)) _ ?_;refine eCf ?_;refine hn6 (some ([5],none)) _ ?_;refine eS fun K9 hn9 hr9 he9 => ?_;refine eO fun K10 hk10 => ?_;refine tC 2 F1 ?_;refine tC 1 F1 ?_;refine tC 1 F1 ?_;refine tC 1 F1 ?_;refine tL F1 ?_;refine hk10 _ ?_;refine hn9 (some ([4],none)) _ ?_
  exact sf1 F1
def FrInv (l : LayV) (p : Nat) (k : Nat) (S : St) : Prop :=
 ∃ i : Nat,i ≤ p ∧ k = p - i ∧ S = ⟨[(2,.ptr 0 0 0),(5,sI (fromL l i)),(7,sI p),(8,sI i)],[(0,.box 25 (eLay l))],1⟩
set_option maxHeartbeats 2000000 in
theorem ok_layFrom (l : LayV) (p : Nat) (hp : p ≤ 7) (hl : RangeL l) : Ok 60 [.agg (eLay l),sI p] (sI (fromL l p)) := by
 refine ok_of_tr Tryz.func60 tr_layFrom rfl ?_
 unfold evFn sc_layFrom rv_layFrom
 refine eS fun _ hn1 _ _ => ?_;refine eO fun _ hk2 => ?_;refine tL0 ?_;refine hk2 _ ?_;refine hn1 (some ([1,2],none)) _ ?_;refine eS fun _ hn3 _ _ => ?_;refine eO fun _ hk4 => ?_;refine tL0 ?_;refine hk4 _ ?_;refine hn3 (some ([1,2,5],none)) _ ?_;refine eS fun _ hn5 _ _ => ?_;refine eS fun _ hn6 _ _ => ?_;refine eO fun _ hk7 => ?_;refine tL0 ?_;refine hk7 _ ?_;refine hn6 (some ([2,5,7,8],none)) _ ?_;refine eB fun _ _ hx8 _ _ => ?_;refine eW (FrInv l p) (p) (some ([2,5,7,8],some ([0],1))) ([]) ?_ ?_
 ·try refine lp0 ?_
  exact ⟨0,by omega,by omega,by rfl⟩
 ·intro k S1 hI
  obtain ⟨i,hi,rfl,rfl⟩ := hI
  have hcase : i = p ∨ i < p := by omega
  intro _ hn9 _ he9
  rcases hcase with hcc | hcc
  ·skip
   have w2 : ¬ (i : Int) < (p : Int) := by omega
   subst hcc
   have F1 := @w2
   refine eS fun _ hn10 _ _ => ?_;refine eO fun _ hk11 => ?_;refine tZ F1 ?_;refine hk11 _ ?_;refine hn10 (some ([2,5,7,8,9],none)) _ ?_;refine eS fun _ _ _ he12 => ?_;refine eCf ?_;refine he12 0 _ ?_;refine he9 0 _ ?_;refine hx8 _ ?_;refine hn5 (some ([5],none)) _ ?_;refine eS fun _ hn13 _ _ => ?_;refine eO fun _ hk14 => ?_;refine tL F1 ?_;refine hk14 _ ?_;refine hn13 (some ([4],none)) _ ?_
   exact sf1 F1
  ·skip
   have w2 : (i : Int) < (p : Int) := by omega
   have w3 : IntKind.i64.wrap ((i : Int) + 1) = ((i + 1 : Nat) : Int) := by rw [IntKind.wrap_i64]; omega
   have k0 := ok_layLong l i (by omega) hl
   have h1 := long_le hl i
   have h2 := from_le hl i
   have w4 : IntKind.i64.wrap (fromL l i + longL l i) = fromL l (i + 1) := by rw [IntKind.wrap_i64]; show _ = fromL l i + longL l i; omega
   have F2 := And.intro @w2 (And.intro @w3 @w4)
   refine eS fun _ hn15 _ _ => ?_;refine eO fun _ hk16 => ?_;refine tZ F2 ?_;refine hk16 _ ?_;refine hn15 (some ([2,5,7,8,9],none)) _ ?_;refine eS fun _ hn17 _ _ => ?_;refine eCt ?_;refine hn17 (some ([2,5,7,8],none)) _ ?_;refine eS fun _ hn18 _ _ => ?_;refine eB fun _ hn19 _ _ _ => ?_;refine eS fun _ hn20 _ _ => ?_;refine eO fun _ hk21 => ?_;refine tL F2 ?_;refine hk21 _ ?_;refine hn20 (some ([2,5,6,7,8],none)) _ ?_;refine eO fun _ hk22 => ?_;refine tC 2 F2 ?_;refine tS 1 F2 ?_;refine tS 1 F2 ?_;refine Or.inl (Or.inl ⟨_,k0,?_⟩);refine tC 1 F2 ?_;refine tL F2 ?_;refine hk22 _ ?_;refine hn19 _ ?_;refine hn18 (some ([2,5,7,8],none)) _ ?_;refine eO fun _ hk23 => ?_;refine tC 1 F2 ?_;refine tL F2 ?_;refine hk23 _ ?_;refine hn9 (p - (i + 1)) (some ([2,5,7,8],some ([0],1))) _ ?_ ?_
   all_goals try refine lp0 ?_
   ·omega
   ·exact ⟨i + 1,by omega,by omega,rfl⟩
theorem ok_layBetween (n a b : Int) : Ok 77 [sI n,sI a,sI b] (sB (decide (a ≤ n ∧ n ≤ b))) := by
 refine ok_of_tr Tryz.func77 tr_layBetween rfl ?_
 by_cases h1 : a ≤ n
 ·have e : decide (a ≤ n ∧ n ≤ b) = decide (n ≤ b) := decide_eq_decide.2 ⟨fun h => h.2,fun h => ⟨h1,h⟩⟩
  rw [e]
  unfold evFn sc_layBetween rv_layBetween
  have F1 := @h1
  refine eS fun K1 hn1 hr1 he1 => ?_;refine eO fun K2 hk2 => ?_;refine tL F1 ?_;refine hk2 _ ?_;refine hn1 (some ([0,1,2],none)) _ ?_;refine eS fun K3 hn3 hr3 he3 => ?_;refine eO fun K4 hk4 => ?_;refine tC 3 F1 ?_;refine tC 4 F1 ?_;refine tL F1 ?_;refine hk4 _ ?_;refine hn3 (some ([6],none)) _ ?_
  exact sf1 F1
 ·rw [decide_eq_false (fun h => h1 h.1)]
  unfold evFn sc_layBetween rv_layBetween
  have F1 := @h1
  refine eS fun K1 hn1 hr1 he1 => ?_;refine eO fun K2 hk2 => ?_;refine tL F1 ?_;refine hk2 _ ?_;refine hn1 (some ([0,1,2],none)) _ ?_;refine eS fun K3 hn3 hr3 he3 => ?_;refine eO fun K4 hk4 => ?_;refine tC 3 F1 ?_;refine tC 4 F1 ?_;refine tL F1 ?_;refine hk4 _ ?_;refine hn3 (some ([6],none)) _ ?_
  exact sf1 F1
set_option maxHeartbeats 2000000 in
theorem ok_layCheck (l : LayV) : Ok 59 [.agg (eLay l)] (sI (checkL l)) := by
 refine ok_of_tr Tryz.func59 tr_layCheck rfl ?_
 have k0 := ok_layBetween l.threads 1 8
 have k1 := ok_layBetween l.cells 1 2048
 have k2 := ok_layBetween l.blocks 0 64
 unfold checkL
 by_cases h0 : 1 ≤ l.threads ∧ l.threads ≤ 8
 case neg =>
  rw [if_neg (fun h => h0 h.1)]
  rw [decide_eq_false h0] at k0
  unfold evFn sc_layCheck rv_layCheck
  refine eS fun K1 hn1 hr1 he1 => ?_;refine eO fun K2 hk2 => ?_;refine tL0 ?_;refine hk2 _ ?_;refine hn1 (some ([1],none)) _ ?_;refine eS fun K3 hn3 hr3 he3 => ?_;refine eB fun K4 hn4 hx4 hr4 he4 => ?_;refine eS fun K5 hn5 hr5 he5 => ?_;refine eS fun K6 hn6 hr6 he6 => ?_;refine eO fun K7 hk7 => ?_;refine tC0 2 ?_;refine tS0 1 ?_;refine Or.inl (Or.inl ⟨_,k0,?_⟩);refine tL0 ?_;refine hk7 _ ?_;refine hn6 (some ([1,3],none)) _ ?_;refine eCt ?_;refine hn5 (some ([1,3],none)) _ ?_;refine eCt ?_;refine eS fun K8 hn8 hr8 he8 => ?_;refine eO fun K9 hk9 => ?_;refine tL0 ?_;refine hk9 _ ?_;refine hn8 (some ([2],none)) _ ?_;refine hr4 _ ?_;refine hr3 _ ?_
  exact sf0
 rw [decide_eq_true h0] at k0
 by_cases h1 : 1 ≤ l.cells ∧ l.cells ≤ 2048
 case neg =>
  rw [if_neg (fun h => h1 h.2.1)]
  rw [decide_eq_false h1] at k1
  unfold evFn sc_layCheck rv_layCheck
  refine eS fun K1 hn1 hr1 he1 => ?_;refine eO fun K2 hk2 => ?_;refine tL0 ?_;refine hk2 _ ?_;refine hn1 (some ([1],none)) _ ?_;refine eS fun K3 hn3 hr3 he3 => ?_;refine eB fun K4 hn4 hx4 hr4 he4 => ?_;refine eS fun K5 hn5 hr5 he5 => ?_;refine eS fun K6 hn6 hr6 he6 => ?_;refine eO fun K7 hk7 => ?_;refine tC0 2 ?_;refine tS0 1 ?_;refine Or.inl (Or.inl ⟨_,k0,?_⟩);refine tL0 ?_;refine hk7 _ ?_;refine hn6 (some ([1,3],none)) _ ?_;refine eCf ?_;refine eS fun K8 hn8 hr8 he8 => ?_;refine eO fun K9 hk9 => ?_;refine tC0 2 ?_;refine tS0 1 ?_;refine Or.inl (Or.inl ⟨_,k1,?_⟩);refine tL0 ?_;refine hk9 _ ?_;refine hn8 (some ([1,3],none)) _ ?_;refine eCt ?_;refine hn5 (some ([1,3],none)) _ ?_;refine eCt ?_;refine eS fun K10 hn10 _ _ => ?_;refine eO fun K11 hk11 => ?_;refine tL0 ?_;refine hk11 _ ?_;refine hn10 (some ([2],none)) _ ?_;refine hr4 _ ?_;refine hr3 _ ?_
  exact sf0
 rw [decide_eq_true h1] at k1
 by_cases h2 : 0 ≤ l.blocks ∧ l.blocks ≤ 64
 case neg =>
  rw [if_neg (fun h => h2 h.2.2)]
  rw [decide_eq_false h2] at k2
  unfold evFn sc_layCheck rv_layCheck
  refine eS fun K1 hn1 hr1 he1 => ?_;refine eO fun K2 hk2 => ?_;refine tL0 ?_;refine hk2 _ ?_;refine hn1 (some ([1],none)) _ ?_;refine eS fun K3 hn3 hr3 he3 => ?_;refine eB fun K4 hn4 hx4 hr4 he4 => ?_;refine eS fun K5 hn5 hr5 he5 => ?_;refine eS fun K6 hn6 hr6 he6 => ?_;refine eO fun K7 hk7 => ?_;refine tC0 2 ?_;refine tS0 1 ?_;refine Or.inl (Or.inl ⟨_,k0,?_⟩);refine tL0 ?_;refine hk7 _ ?_;refine hn6 (some ([1,3],none)) _ ?_;refine eCf ?_;refine eS fun K8 hn8 hr8 he8 => ?_;refine eO fun K9 hk9 => ?_;refine tC0 2 ?_;refine tS0 1 ?_;refine Or.inl (Or.inl ⟨_,k1,?_⟩);refine tL0 ?_;refine hk9 _ ?_;refine hn8 (some ([1,3],none)) _ ?_;refine eCf ?_;refine eO fun K10 hk10 => ?_;refine tC0 2 ?_;refine tS0 1 ?_;refine Or.inl (Or.inl ⟨_,k2,?_⟩);refine tL0 ?_;refine hk10 _ ?_;refine hn5 (some ([1,3],none)) _ ?_;refine eCt ?_;refine eS fun K11 hn11 hr11 he11 => ?_;refine eO fun K12 hk12 => ?_
  refine tL0 ?_;refine hk12 _ ?_;refine hn11 (some ([2],none)) _ ?_;refine hr4 _ ?_;refine hr3 _ ?_
  exact sf0
 rw [decide_eq_true h2] at k2
 have hr : RangeL l := ⟨h0,h1,h2⟩
 rw [if_pos hr]
 have k3 := ok_layFrom l 7 (by omega) hr
 by_cases h3 : 4096 < fromL l 7
 ·rw [if_pos h3]
  generalize fromL l 7 = x at k3 h3
  unfold evFn sc_layCheck rv_layCheck
  have F1 := @h3
  refine eS fun K1 hn1 hr1 he1 => ?_;refine eO fun K2 hk2 => ?_;refine tL F1 ?_;refine hk2 _ ?_;refine hn1 (some ([1],none)) _ ?_;refine eS fun K3 hn3 hr3 he3 => ?_;refine eB fun K4 hn4 hx4 hr4 he4 => ?_;refine eS fun K5 hn5 hr5 he5 => ?_;refine eS fun K6 hn6 hr6 he6 => ?_;refine eO fun K7 hk7 => ?_;refine tC 2 F1 ?_;refine tS 1 F1 ?_;refine Or.inl (Or.inl ⟨_,k0,?_⟩);refine tL F1 ?_;refine hk7 _ ?_;refine hn6 (some ([1,3],none)) _ ?_;refine eCf ?_;refine eS fun K8 hn8 hr8 he8 => ?_;refine eO fun K9 hk9 => ?_;refine tC 2 F1 ?_;refine tS 1 F1 ?_;refine Or.inl (Or.inl ⟨_,k1,?_⟩);refine tL F1 ?_;refine hk9 _ ?_;refine hn8 (some ([1,3],none)) _ ?_;refine eCf ?_;refine eO fun K10 hk10 => ?_;refine tC 2 F1 ?_;refine tS 1 F1 ?_;refine Or.inl (Or.inl ⟨_,k2,?_⟩);refine tL F1 ?_;refine hk10 _ ?_;refine hn5 (some ([1,3],none)) _ ?_;refine eCf ?_;refine eS fun K11 hn11 hr11 he11 => ?_;refine eO fun K12 hk12 => ?_
  refine tC 1 F1 ?_;refine tS 1 F1 ?_;refine Or.inl (Or.inl ⟨_,k3,?_⟩);refine tC 1 F1 ?_;refine tL F1 ?_;refine hk12 _ ?_;refine hn11 (some ([16],none)) _ ?_;refine eCt ?_;refine eS fun K13 hn13 hr13 he13 => ?_;refine eO fun K14 hk14 => ?_;refine tL F1 ?_;refine hk14 _ ?_;refine hn13 (some ([2],none)) _ ?_;refine hr4 _ ?_;refine hr3 _ ?_
  exact sf1 F1
 ·rw [if_neg h3]
  generalize fromL l 7 = x at k3 h3
  unfold evFn sc_layCheck rv_layCheck
  have F1 := @h3
  refine eS fun K1 hn1 hr1 he1 => ?_;refine eO fun K2 hk2 => ?_;refine tL F1 ?_;refine hk2 _ ?_;refine hn1 (some ([1],none)) _ ?_;refine eS fun K3 hn3 hr3 he3 => ?_;refine eB fun K4 hn4 hx4 hr4 he4 => ?_;refine eS fun K5 hn5 hr5 he5 => ?_;refine eS fun K6 hn6 hr6 he6 => ?_;refine eO fun K7 hk7 => ?_;refine tC 2 F1 ?_;refine tS 1 F1 ?_;refine Or.inl (Or.inl ⟨_,k0,?_⟩);refine tL F1 ?_;refine hk7 _ ?_;refine hn6 (some ([1,3],none)) _ ?_;refine eCf ?_;refine eS fun K8 hn8 hr8 he8 => ?_;refine eO fun K9 hk9 => ?_;refine tC 2 F1 ?_;refine tS 1 F1 ?_;refine Or.inl (Or.inl ⟨_,k1,?_⟩);refine tL F1 ?_;refine hk9 _ ?_;refine hn8 (some ([1,3],none)) _ ?_;refine eCf ?_;refine eO fun K10 hk10 => ?_;refine tC 2 F1 ?_;refine tS 1 F1 ?_;refine Or.inl (Or.inl ⟨_,k2,?_⟩);refine tL F1 ?_;refine hk10 _ ?_;refine hn5 (some ([1,3],none)) _ ?_;refine eCf ?_;refine eS fun K11 hn11 hr11 he11 => ?_;refine eO fun K12 hk12 => ?_
  refine tC 1 F1 ?_;refine tS 1 F1 ?_;refine Or.inl (Or.inl ⟨_,k3,?_⟩);refine tC 1 F1 ?_;refine tL F1 ?_;refine hk12 _ ?_;refine hn11 (some ([16],none)) _ ?_;refine eCf ?_;refine hn4 _ ?_;refine hn3 (some ([],none)) _ ?_;refine eS fun K13 hn13 hr13 he13 => ?_;refine eO fun K14 hk14 => ?_;refine tL F1 ?_;refine hk14 _ ?_;refine hn13 (some ([2],none)) _ ?_
  exact sf1 F1
theorem ok_layRight (l : LayV) : Ok 29 [.agg (eLay l)] (sB (checkL l == 0)) := by
 refine ok_of_tr Tryz.func29 tr_layRight rfl ?_
 have k0 := ok_layCheck l
 generalize checkL l = c at k0 ⊢
 unfold evFn sc_layRight rv_layRight
 refine eS fun _ hn1 _ _ => ?_;refine eO fun _ hk2 => ?_;refine tL0 ?_;refine hk2 _ ?_;refine hn1 (some ([1],none)) _ ?_;refine eS fun _ hn3 _ _ => ?_;refine eO fun _ hk4 => ?_;refine tC0 1 ?_;refine tS0 1 ?_;refine Or.inl (Or.inl ⟨_,k0,?_⟩);refine tC0 1 ?_;refine tL0 ?_;refine hk4 _ ?_;refine hn3 (some ([2],none)) _ ?_
 exact sf0
theorem ok_laySize (l : LayV) : Ok 30 [.agg (eLay l)] (sI (sizeofL l)) := by
 refine ok_of_tr Tryz.func30 tr_laySize rfl ?_
 have k0 := ok_layRight l
 unfold sizeofL
 by_cases h : checkL l = 0
 ·rw [if_pos h]
  rw [h] at k0
  have k1 := ok_layFrom l 7 (by omega) (checkL_zero h).1
  generalize fromL l 7 = x at k1 ⊢
  unfold evFn sc_laySize rv_laySize
  refine eS fun K1 hn1 hr1 he1 => ?_;refine eO fun K2 hk2 => ?_;refine tL0 ?_;refine hk2 _ ?_;refine hn1 (some ([1],none)) _ ?_;refine eS fun K3 hn3 hr3 he3 => ?_;refine eS fun K4 hn4 hr4 he4 => ?_;refine eO fun K5 hk5 => ?_;refine tC0 1 ?_;refine tS0 1 ?_;refine Or.inl (Or.inl ⟨_,k0,?_⟩);refine tL0 ?_;refine hk5 _ ?_;refine hn4 (some ([1,5],none)) _ ?_;refine eCf ?_;refine hn3 (some ([1],none)) _ ?_;refine eS fun K6 hn6 hr6 he6 => ?_;refine eO fun K7 hk7 => ?_;refine tC0 1 ?_;refine tS0 1 ?_;refine Or.inl (Or.inl ⟨_,k1,?_⟩);refine tL0 ?_;refine hk7 _ ?_;refine hn6 (some ([2],none)) _ ?_
  exact sf0
 ·rw [if_neg h]
  rw [show (checkL l == 0) = false by simpa using h] at k0
  unfold evFn sc_laySize rv_laySize
  refine eS fun K1 hn1 hr1 he1 => ?_;refine eO fun K2 hk2 => ?_;refine tL0 ?_;refine hk2 _ ?_;refine hn1 (some ([1],none)) _ ?_;refine eS fun K3 hn3 hr3 he3 => ?_;refine eS fun K4 hn4 hr4 he4 => ?_;refine eO fun K5 hk5 => ?_;refine tC0 1 ?_;refine tS0 1 ?_;refine Or.inl (Or.inl ⟨_,k0,?_⟩);refine tL0 ?_;refine hk5 _ ?_;refine hn4 (some ([1,5],none)) _ ?_;refine eCt ?_;refine eS fun K6 hn6 hr6 he6 => ?_;refine eO fun K7 hk7 => ?_;refine tL0 ?_;refine hk7 _ ?_;refine hn6 (some ([2],none)) _ ?_;refine hr3 _ ?_
  exact sf0
set_option maxHeartbeats 4000000 in
theorem ok_layAt (l : LayV) (p : Nat) (hp : p < 7) (i more : Int) (hm : -10000 ≤ more ∧ more ≤ 10000) : Ok 61 [.agg (eLay l),sI p,sI i,sI more] (sI (atL l p i more)) := by
 refine ok_of_tr Tryz.func61 tr_layAt rfl ?_
 have k0 := ok_layRight l
 have k1 := ok_layMany l p hp
 unfold atL
 by_cases h : checkL l = 0
 case neg =>
  rw [if_neg (fun h' => h h'.1)]
  rw [show (checkL l == 0) = false by simpa using h] at k0
  unfold evFn sc_layAt rv_layAt
  refine eS fun K1 hn1 hr1 he1 => ?_;refine eO fun K2 hk2 => ?_;refine tL0 ?_;refine hk2 _ ?_;refine hn1 (some ([1,2,3,4],none)) _ ?_;refine eS fun K3 hn3 hr3 he3 => ?_;refine eS fun K4 hn4 hr4 he4 => ?_;refine eO fun K5 hk5 => ?_;refine tC0 1 ?_;refine tS0 1 ?_;refine Or.inl (Or.inl ⟨_,k0,?_⟩);refine tC0 4 ?_;refine tC0 4 ?_;refine tS0 1 ?_;refine tS0 1 ?_
  skip
  refine tC0 1 ?_;refine tL0 ?_;refine hk5 _ ?_;refine hn4 (some ([1,2,3,4,22],none)) _ ?_;refine eCt ?_;refine eS fun K6 hn6 hr6 he6 => ?_;refine eO fun K7 hk7 => ?_;refine tL0 ?_;refine hk7 _ ?_;refine hn6 (some ([8],none)) _ ?_;refine hr3 _ ?_
  exact sf0
 rw [h] at k0
 by_cases h1 : i < 0
 ·rw [if_neg (by omega)]
  unfold evFn sc_layAt rv_layAt
  have F1 := @h1
  refine eS fun K1 hn1 hr1 he1 => ?_;refine eO fun K2 hk2 => ?_;refine tL F1 ?_;refine hk2 _ ?_;refine hn1 (some ([1,2,3,4],none)) _ ?_;refine eS fun K3 hn3 hr3 he3 => ?_;refine eS fun K4 hn4 hr4 he4 => ?_;refine eO fun K5 hk5 => ?_;refine tC 1 F1 ?_;refine tS 1 F1 ?_;refine Or.inl (Or.inl ⟨_,k0,?_⟩);refine tC 4 F1 ?_;refine tC 4 F1 ?_;refine tS 1 F1 ?_;refine tS 1 F1 ?_
  skip
  refine tC 1 F1 ?_;refine tL F1 ?_;refine hk5 _ ?_;refine hn4 (some ([1,2,3,4,22],none)) _ ?_;refine eCt ?_;refine eS fun K6 hn6 hr6 he6 => ?_;refine eO fun K7 hk7 => ?_;refine tL F1 ?_;refine hk7 _ ?_;refine hn6 (some ([8],none)) _ ?_;refine hr3 _ ?_
  exact sf1 F1
 by_cases h2 : manyL l p ≤ i
 ·rw [if_neg (by omega)]
  generalize manyL l p = m at k1 h2
  unfold evFn sc_layAt rv_layAt
  have F1 := And.intro @h1 @h2
  refine eS fun K1 hn1 hr1 he1 => ?_;refine eO fun K2 hk2 => ?_;refine tL F1 ?_;refine hk2 _ ?_;refine hn1 (some ([1,2,3,4],none)) _ ?_;refine eS fun K3 hn3 hr3 he3 => ?_;refine eS fun K4 hn4 hr4 he4 => ?_;refine eO fun K5 hk5 => ?_;refine tC 1 F1 ?_;refine tS 1 F1 ?_;refine Or.inl (Or.inl ⟨_,k0,?_⟩);refine tC 4 F1 ?_;refine tC 4 F1 ?_;refine tS 1 F1 ?_;refine tS 1 F1 ?_;refine Or.inl (Or.inl ⟨_,k1,?_⟩);refine tC 1 F1 ?_;refine tL F1 ?_;refine hk5 _ ?_;refine hn4 (some ([1,2,3,4,22],none)) _ ?_;refine eCt ?_;refine eS fun K6 hn6 hr6 he6 => ?_;refine eO fun K7 hk7 => ?_;refine tL F1 ?_;refine hk7 _ ?_;refine hn6 (some ([8],none)) _ ?_;refine hr3 _ ?_
  exact sf1 F1
 rw [if_pos ⟨h,by omega,by omega⟩]
 obtain ⟨hr,h7⟩ := checkL_zero h
 have k2 := ok_layFrom l p (by omega) hr
 have hf := from_le hr p
 have hml := many_le hr p
 have hs := size_le p
 have hg : [sI 8,sI 8,sI 8,sI 1,sI 104,sI 0,sI 32][p]? = some (sI (sizeL p)) :=
  match p,hp with
  | 0,_ => rfl | 1,_ => rfl | 2,_ => rfl | 3,_ => rfl | 4,_ => rfl | 5,_ => rfl | 6,_ => rfl
 have e0 : (0 : Nat) + p * 1 = p := by omega
 have e0' : (0 : Nat) + p = p := by omega
 have gs := gSizes_sh
 have p7 : (p : Int) < 7 := by omega
 have x1 : 0 ≤ i * sizeL p := Int.mul_nonneg (by omega) hs.1
 have x2 : i * sizeL p ≤ 2048 * 104 := Int.mul_le_mul (by omega) hs.2 hs.1 (by omega)
 have hfp : fromL l p ≤ 213000 * 7 := by
  have := hf.2
  have : (213000 : Int) * p ≤ 213000 * 7 := by omega
  omega
 generalize fromL l p = f at *
 generalize manyL l p = m at k1 h2
 generalize sizeL p = s at *
 have w1 : IntKind.i64.wrap (i * s) = i * s := by rw [IntKind.wrap_i64]; omega
 have w2 : IntKind.i64.wrap (f + i * s) = f + i * s := by rw [IntKind.wrap_i64]; omega
 have w3 : IntKind.i64.wrap (f + i * s + more) = f + i * s + more := by rw [IntKind.wrap_i64]; omega
 unfold evFn sc_layAt rv_layAt
 have F1 := And.intro @h1 (And.intro @h2 (And.intro @gs (And.intro @hg (And.intro @e0 (And.intro @e0' (And.intro @p7 (And.intro @w1 (And.intro @w2 @w3))))))))
 refine eS fun K1 hn1 hr1 he1 => ?_;refine eO fun K2 hk2 => ?_;refine tL F1 ?_;refine hk2 _ ?_;refine hn1 (some ([1,2,3,4],none)) _ ?_;refine eS fun K3 hn3 hr3 he3 => ?_;refine eS fun K4 hn4 hr4 he4 => ?_;refine eO fun K5 hk5 => ?_;refine tC 1 F1 ?_;refine tS 1 F1 ?_;refine Or.inl (Or.inl ⟨_,k0,?_⟩);refine tC 4 F1 ?_;refine tC 4 F1 ?_;refine tS 1 F1 ?_;refine tS 1 F1 ?_;refine Or.inl (Or.inl ⟨_,k1,?_⟩);refine tC 1 F1 ?_;refine tL F1 ?_;refine hk5 _ ?_;refine hn4 (some ([1,2,3,4,22],none)) _ ?_;refine eCf ?_;refine hn3 (some ([1,2,3,4],none)) _ ?_;refine eS fun K6 hn6 hr6 he6 => ?_;refine eD [] (n := 10) fun K7 hk7 => ?_;refine sq0 ?_;refine fC 1 F1 ?_;refine fS 1 F1 ?_;refine fS 1 F1 ?_;refine ⟨_,k2,?_⟩;refine fC 3 F1 ?_;refine fC 1 F1 ?_;refine fC 1 F1 ?_;refine fC 1 F1 ?_;refine fL F1 ?_;refine hk7 _ ?_;refine sr0 ?_;refine tC 1 F1 ?_;refine tL F1 ?_;refine hn6 (some ([8],none)) _ ?_
 exact sf1 F1
theorem ok_layEra (l : LayV) : Ok 31 [.agg (eLay l)] (sI (atL l 0 0 1)) := by
 refine ok_of_tr Tryz.func31 tr_layEra rfl ?_
 have k0 := ok_layAt l 0 (by omega) 0 1 (by omega)
 generalize atL l 0 0 1 = x at k0 ⊢
 unfold evFn sc_layEra rv_layEra
 refine eS fun _ hn1 _ _ => ?_;refine eO fun _ hk2 => ?_;refine tL0 ?_;refine hk2 _ ?_;refine hn1 (some ([1],none)) _ ?_;refine eS fun _ hn3 _ _ => ?_;refine eO fun _ hk4 => ?_;refine tC0 1 ?_;refine tS0 1 ?_;refine Or.inl (Or.inl ⟨_,k0,?_⟩);refine tL0 ?_;refine hk4 _ ?_;refine hn3 (some ([2],none)) _ ?_
 exact sf0
theorem ok_laySlot (l : LayV) (t : Int) : Ok 32 [.agg (eLay l),sI t] (sI (atL l 4 (IntKind.i64.wrap (t - 1)) 0)) := by
 refine ok_of_tr Tryz.func32 tr_laySlot rfl ?_
 have k0 := ok_layAt l 4 (by omega) (IntKind.i64.wrap (t - 1)) 0 (by omega)
 generalize atL l 4 (IntKind.i64.wrap (t - 1)) 0 = x at k0 ⊢
 unfold evFn sc_laySlot rv_laySlot
 refine eS fun _ hn1 _ _ => ?_;refine eO fun _ hk2 => ?_;refine tL0 ?_;refine hk2 _ ?_;refine hn1 (some ([1,2],none)) _ ?_;refine eS fun _ hn3 _ _ => ?_;refine eO fun _ hk4 => ?_;refine tC0 1 ?_;refine tC0 2 ?_;refine tS0 1 ?_;refine Or.inl (Or.inl ⟨_,k0,?_⟩);refine tL0 ?_;refine hk4 _ ?_;refine hn3 (some ([4],none)) _ ?_
 exact sf0
theorem ok_layBlock (l : LayV) (i : Int) : Ok 33 [.agg (eLay l),sI i] (sI (atL l 6 i 0)) := by
 refine ok_of_tr Tryz.func33 tr_layBlock rfl ?_
 have k0 := ok_layAt l 6 (by omega) i 0 (by omega)
 generalize atL l 6 i 0 = x at k0 ⊢
 unfold evFn sc_layBlock rv_layBlock
 refine eS fun _ hn1 _ _ => ?_;refine eO fun _ hk2 => ?_;refine tL0 ?_;refine hk2 _ ?_;refine hn1 (some ([1,2],none)) _ ?_;refine eS fun _ hn3 _ _ => ?_;refine eO fun _ hk4 => ?_;refine tC0 1 ?_;refine tS0 1 ?_;refine tS0 1 ?_;refine Or.inl (Or.inl ⟨_,k0,?_⟩);refine tL0 ?_;refine hk4 _ ?_;refine hn3 (some ([4],none)) _ ?_
 exact sf0
end Go.Proofs.YtkmbcjnaaokilaaGreatDoor
