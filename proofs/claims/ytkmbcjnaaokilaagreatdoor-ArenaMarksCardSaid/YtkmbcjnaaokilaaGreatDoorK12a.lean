/-
  Layer 12 by shadows: the bits of the blocks, the ranges of a search.
-/
import Derived.Test.YtkmbcjnaaokilaaGreatDoorK11
import Derived.Test.YtkmbcjnaaokilaaGreatDoorMK12
import Derived.Test.YtkmbcjnaaokilaaGreatDoorSc12
import Derived.Test.YtkmbcjnaaokilaaGreatDoorMC
namespace Go.Proofs.YtkmbcjnaaokilaaGreatDoor
set_option linter.unusedSimpArgs false
set_option linter.unusedVariables false
open Go.RowKit Go.Maps
theorem gen_shl {t t2 : TypeId} {x y : Operand} {k k2 : IntKind} {p q : Int} (h0 : 0 ≤ q) (h1 : q ≤ k.bits) : GenRel (.binOp .shl t x y t2) [x,y] [.v (.int k p),.v (.int k2 q)] (.v (.int k (k.wrap (p * 2 ^ q.toNat)))) := gen_val fun o a w H ho hS hA => by
 cases hA with
 | cons hx hA =>
  cases hA with
  | cons hy hA =>
   generalize hq : a.eval x = u at hx
   generalize hqj : a.eval y = v at hy
   cases hx; cases hy
   refine ⟨_,?_,.v rfl⟩
   simp [execOp,ho,hq,hqj,eqGuard,binOp,shift_shl k k2 p q h0 h1]
def bitP (l : LayV) (i : Nat) : Int := fromL l 5 + ((i / 32 : Nat) : Int)
def bitV (i : Nat) : Int := ((2 ^ (i % 32) : Nat) : Int)
theorem bitV_le (i : Nat) : 1 ≤ bitV i ∧ bitV i ≤ 2147483648 := by
 unfold bitV
 have h1 : 2 ^ (i % 32) ≤ 2 ^ 31 := Nat.pow_le_pow_right (by omega) (by omega)
 have h2 : 0 < 2 ^ (i % 32) := Nat.pow_pos (by omega)
 omega
theorem at_bits {l : LayV} (hl : checkL l = 0) {i : Nat} (hi : (i : Int) < l.blocks) : atL l 5 i ((i / 32 : Nat) : Int) = bitP l i := by
 unfold atL bitP
 rw [if_pos ⟨hl,by omega,hi⟩]
 show fromL l 5 + (i : Int) * 0 + _ = _
 omega
theorem bitP_ge {l : LayV} (hl : checkL l = 0) (i : Nat) : 0 ≤ bitP l i := by
 have := (from_le (checkL_zero hl).1 5).1
 unfold bitP; omega
set_option maxHeartbeats 2000000 in
theorem ok_layBits {l : LayV} (hl : checkL l = 0) (i : Nat) (hi : (i : Int) < l.blocks) : Ok 38 [.agg (eLay l),sI i] (.tup [sI (bitP l i),sI (bitV i)]) := by
 refine ok_of_tr Tryz.func38 tr_layBits rfl ?_
 have hb := (checkL_zero hl).1.2.2
 have k0 := ok_layAt l 5 (by omega) i ((i / 32 : Nat) : Int) (by omega)
 rw [at_bits hl hi] at k0
 have k0' : Ok 61 [.agg (eLay l),.v (.int .i64 5),sI i,sI ((i / 32 : Nat) : Int)] (sI (bitP l i)) := k0
 have q1 : IntKind.i64.wrap ((i : Int).tdiv 32) = ((i / 32 : Nat) : Int) := by rw [Int.tdiv_eq_ediv_of_nonneg (by omega),IntKind.wrap_i64]; omega
 have q2 : (i : Int).tmod 32 = ((i % 32 : Nat) : Int) := by rw [Int.tmod_eq_emod_of_nonneg (by omega)]; omega
 have q3 : ¬ bitP l i < 0 := by have := bitP_ge hl i; omega
 have q4 : IntKind.i64.wrap (1 * 2 ^ ((i % 32 : Nat) : Int).toNat) = bitV i := by
  have h1 := bitV_le i
  have e : (1 : Int) * 2 ^ ((i % 32 : Nat) : Int).toNat = bitV i := by unfold bitV; rw [Int.toNat_natCast,Int.one_mul]; simp
  rw [e,IntKind.wrap_i64]; omega
 have q5 : (0 : Int) ≤ ((i % 32 : Nat) : Int) := by omega
 have q6 : ((i % 32 : Nat) : Int) ≤ IntKind.i64.bits := by show _ ≤ (64 : Int); omega
 generalize hm : ((i % 32 : Nat) : Int) = m at q2 q4 q5 q6
 generalize hd : ((i / 32 : Nat) : Int) = d at k0' q1
 generalize bitP l i = P at k0' q3 ⊢
 unfold evFn sc_layBits rv_layBits
 have F1 := And.intro @q1 (And.intro @q2 (And.intro @q3 @q4))
 refine eS fun _ hn1 _ _ => ?_;refine eO fun _ hk2 => ?_;refine tL F1 ?_;refine hk2 _ ?_;refine hn1 (some ([1,2],none)) _ ?_;refine eS fun _ hn3 _ _ => ?_;refine eO fun _ hk4 => ?_;refine tC 1 F1 ?_;refine tC 3 F1 ?_;refine tS 1 F1 ?_;refine Or.inl (Or.inl ⟨_,k0',?_⟩);refine tL F1 ?_;refine hk4 _ ?_;refine hn3 (some ([1,6],none)) _ ?_;refine eS fun _ hn5 _ _ => ?_;refine eS fun _ hn6 _ _ => ?_;refine eO fun _ hk7 => ?_;refine tZ F1 ?_;refine hk7 _ ?_;refine hn6 (some ([1,6,13],none)) _ ?_;refine eCf ?_;refine hn5 (some ([1,6],none)) _ ?_;refine eS fun _ hn8 _ _ => ?_;refine eD [] (n := 5) fun _ hk9 => ?_;refine sq0 ?_;refine fC 3 F1 ?_;refine fS 1 F1 ?_;refine ⟨_,gen_shl q5 q6,?_⟩;refine fL F1 ?_;refine hk9 _ ?_;refine sr0 ?_;refine tL F1 ?_;refine hn8 (some ([4,5],none)) _ ?_
 exact sf1 F1
theorem ok_arCheck (l : LayV) (i : Int) : Ok 34 [.agg (eLay l),sI i] (sI (if checkL l = 0 then (if 0 ≤ i ∧ i < l.blocks then 0 else 3) else 1)) := by
 refine ok_of_tr Tryz.func34 tr_arCheck rfl ?_
 have k0 := ok_layCheck l
 by_cases h : checkL l = 0
 ·rw [h] at k0
  rw [if_pos h]
  by_cases h1 : i < 0
  ·rw [if_neg (by omega)]
   unfold evFn sc_arCheck rv_arCheck
   have F1 := @h1
   refine eS fun K1 hn1 hr1 he1 => ?_;refine eO fun K2 hk2 => ?_;refine tL F1 ?_;refine hk2 _ ?_;refine hn1 (some ([1,2],none)) _ ?_;refine eS fun K3 hn3 hr3 he3 => ?_;refine eB fun K4 hn4 hx4 hr4 he4 => ?_;refine eS fun K5 hn5 hr5 he5 => ?_;refine eO fun K6 hk6 => ?_;refine tC 1 F1 ?_;refine tS 1 F1 ?_;refine Or.inl (Or.inl ⟨_,k0,?_⟩);refine tC 1 F1 ?_;refine tL F1 ?_;refine hk6 _ ?_;refine hn5 (some ([1,2,5],none)) _ ?_;refine eCf ?_;refine eS fun K7 hn7 hr7 he7 => ?_;refine eO fun K8 hk8 => ?_;refine tC 2 F1 ?_;refine tC 4 F1 ?_;refine tC 1 F1 ?_;refine tL F1 ?_;refine hk8 _ ?_;refine hn7 (some ([9],none)) _ ?_;refine eCt ?_;refine eS fun K9 hn9 hr9 he9 => ?_;refine eO fun K10 hk10 => ?_;refine tL F1 ?_;refine hk10 _ ?_;refine hn9 (some ([4],none)) _ ?_;refine hr4 _ ?_;refine hr3 _ ?_
   exact sf1 F1
  ·by_cases h2 : l.blocks ≤ i
   ·rw [if_neg (by omega)]
    unfold evFn sc_arCheck rv_arCheck
    have F1 := And.intro @h1 @h2
    refine eS fun K1 hn1 hr1 he1 => ?_;refine eO fun K2 hk2 => ?_;refine tL F1 ?_;refine hk2 _ ?_;refine hn1 (some ([1,2],none)) _ ?_;refine eS fun K3 hn3 hr3 he3 => ?_;refine eB fun K4 hn4 hx4 hr4 he4 => ?_;refine eS fun K5 hn5 hr5 he5 => ?_;refine eO fun K6 hk6 => ?_;refine tC 1 F1 ?_;refine tS 1 F1 ?_;refine Or.inl (Or.inl ⟨_,k0,?_⟩);refine tC 1 F1 ?_;refine tL F1 ?_;refine hk6 _ ?_;refine hn5 (some ([1,2,5],none)) _ ?_;refine eCf ?_;refine eS fun K7 hn7 hr7 he7 => ?_;refine eO fun K8 hk8 => ?_;refine tC 2 F1 ?_;refine tC 4 F1 ?_;refine tC 1 F1 ?_;refine tL F1 ?_;refine hk8 _ ?_;refine hn7 (some ([9],none)) _ ?_;refine eCt ?_;refine eS fun K9 hn9 hr9 he9 => ?_;refine eO fun K10 hk10 => ?_;refine tL F1 ?_;refine hk10 _ ?_;refine hn9 (some ([4],none)) _ ?_;refine hr4 _ ?_;refine hr3 _ ?_
    exact sf1 F1
   ·rw [if_pos (by omega)]
    unfold evFn sc_arCheck rv_arCheck
    have F1 := And.intro @h1 @h2
    refine eS fun K1 hn1 hr1 he1 => ?_;refine eO fun K2 hk2 => ?_;refine tL F1 ?_;refine hk2 _ ?_;refine hn1 (some ([1,2],none)) _ ?_;refine eS fun K3 hn3 hr3 he3 => ?_;refine eB fun K4 hn4 hx4 hr4 he4 => ?_;refine eS fun K5 hn5 hr5 he5 => ?_;refine eO fun K6 hk6 => ?_;refine tC 1 F1 ?_;refine tS 1 F1 ?_;refine Or.inl (Or.inl ⟨_,k0,?_⟩);refine tC 1 F1 ?_;refine tL F1 ?_;refine hk6 _ ?_;refine hn5 (some ([1,2,5],none)) _ ?_;refine eCf ?_;refine eS fun K7 hn7 hr7 he7 => ?_;refine eO fun K8 hk8 => ?_;refine tC 2 F1 ?_;refine tC 4 F1 ?_;refine tC 1 F1 ?_;refine tL F1 ?_;refine hk8 _ ?_;refine hn7 (some ([9],none)) _ ?_;refine eCf ?_;refine hn4 _ ?_;refine hn3 (some ([],none)) _ ?_;refine eS fun K9 hn9 hr9 he9 => ?_;refine eO fun K10 hk10 => ?_;refine tL F1 ?_;refine hk10 _ ?_;refine hn9 (some ([4],none)) _ ?_
    exact sf1 F1
 ·rw [if_neg h]
  have d : (checkL l != 0) = true := by simpa using h
  unfold evFn sc_arCheck rv_arCheck
  have F1 := @d
  refine eS fun K1 hn1 hr1 he1 => ?_;refine eO fun K2 hk2 => ?_;refine tL F1 ?_;refine hk2 _ ?_;refine hn1 (some ([1,2],none)) _ ?_;refine eS fun K3 hn3 hr3 he3 => ?_;refine eB fun K4 hn4 hx4 hr4 he4 => ?_;refine eS fun K5 hn5 hr5 he5 => ?_;refine eO fun K6 hk6 => ?_;refine tC 1 F1 ?_;refine tS 1 F1 ?_;refine Or.inl (Or.inl ⟨_,k0,?_⟩);refine tC 1 F1 ?_;refine tL F1 ?_;refine hk6 _ ?_;refine hn5 (some ([1,2,5],none)) _ ?_;refine eCt ?_;refine eS fun K7 hn7 hr7 he7 => ?_;refine eO fun K8 hk8 => ?_;refine tL F1 ?_;refine hk8 _ ?_;refine hn7 (some ([4],none)) _ ?_;refine hr4 _ ?_;refine hr3 _ ?_
  exact sf1 F1
def cutP (b a : Nat) : Nat := min b ((a / 32 + 1) * 32)
def segs (b : Nat) : Nat → Nat → List (Nat × Nat)
 | 0,_ => []
 | f + 1,a => if a < b then (a,cutP b a) :: segs b f (cutP b a) else []
theorem cutP_gt {b a : Nat} (h : a < b) : a < cutP b a ∧ cutP b a ≤ b := by unfold cutP; omega
theorem segs_fuel (b : Nat) : ∀ (f g a : Nat),b ≤ a + f → b ≤ a + g → segs b f a = segs b g a
 | 0,g,a,h,_ => by
  cases g with
  | zero => rfl
  | succ g => unfold segs; rw [if_neg (by omega)]
 | f + 1,0,a,_,h => by unfold segs; rw [if_neg (by omega)]
 | f + 1,g + 1,a,h1,h2 => by
  unfold segs
  split
  ·rename_i h
   have := cutP_gt h
   rw [segs_fuel b f g _ (by omega) (by omega)]
  ·rfl
theorem segs_step {b a : Nat} (h : a < b) : segs b b a = (a,cutP b a) :: segs b b (cutP b a) := by
 have := cutP_gt h
 rw [segs_fuel b b (b + 1) a (by omega) (by omega),segs,if_pos h]
theorem segs_end {b a : Nat} (h : b ≤ a) : segs b b a = [] := by
 rw [segs_fuel b b 0 a (by omega) (by omega)]; rfl
theorem segs_mem {b : Nat} : ∀ (f a : Nat) {p : Nat × Nat},p ∈ segs b f a → p.1 < p.2 ∧ p.2 ≤ b ∧ p.2 ≤ (p.1 / 32 + 1) * 32
 | 0,_,_,h => by cases h
 | f + 1,a,p,h => by
  unfold segs at h
  split at h
  ·rename_i hlt
   have := cutP_gt hlt
   rcases List.mem_cons.1 h with rfl | h
   ·refine ⟨this.1,this.2,?_⟩
    show cutP b a ≤ _
    unfold cutP
    exact Nat.min_le_right _ _
   ·exact segs_mem f _ h
  ·cases h
def partsL (b a : Nat) : List (Nat × Nat) := segs b b a ++ segs a a 0
abbrev ePart (p : Nat × Nat) : List Sh := [sI p.1,sI p.2]
def PaInv (b a : Nat) (k : Nat) (S : St) : Prop :=
 ∃ (i : Nat) (done : List (Nat × Nat)),i ≤ b ∧ k = b - i ∧ done.length ≤ i ∧ done ++ segs b b i = segs b b a ∧ S = ⟨[(0,sI b),(1,sI a),(5,.own 0),(6,sI i)],[(0,.row 131 2 (done.map ePart))],1⟩
def PbInv (b a : Nat) (k : Nat) (S : St) : Prop :=
 ∃ (i : Nat) (done : List (Nat × Nat)),i ≤ a ∧ k = a - i ∧ done.length ≤ 64 + i ∧ segs b b a ++ segs a a 0 = done ++ segs a a i ∧ S = ⟨[(1,sI a),(5,.own 0),(8,sI i)],[(0,.row 131 2 (done.map ePart))],1⟩
set_option maxHeartbeats 4000000 in
theorem ok_arParts (b a : Nat) (hb : b ≤ 64) (ha : a ≤ b) : Ok 35 [sI b,sI a] (.sl 2 0 ((partsL b a).map ePart)) := by
 refine ok_of_tr Tryz.func35 tr_arParts rfl ?_
 have w1 : ∀ i : Nat,i ≤ 64 → IntKind.i64.wrap ((i : Int).tdiv 32) = ((i / 32 : Nat) : Int) := fun i hi => by rw [Int.tdiv_eq_ediv_of_nonneg (by omega),IntKind.wrap_i64]; omega
 have w2 : ∀ i : Nat,i ≤ 64 → IntKind.i64.wrap (((i / 32 : Nat) : Int) + 1) = ((i / 32 + 1 : Nat) : Int) := fun i hi => by rw [IntKind.wrap_i64]; omega
 have w3 : ∀ i : Nat,i ≤ 64 → IntKind.i64.wrap (((i / 32 + 1 : Nat) : Int) * 32) = (((i / 32 + 1) * 32 : Nat) : Int) := fun i hi => by rw [IntKind.wrap_i64]; omega
 have w4 : ∀ b i : Nat,min (b : Int) (((i / 32 + 1) * 32 : Nat) : Int) = ((cutP b i : Nat) : Int) := fun b i => by unfold cutP; omega
 unfold partsL
 unfold evFn sc_arParts rv_arParts
 refine eS fun _ hn1 _ _ => ?_;refine eO fun _ hk2 => ?_;refine tL0 ?_;refine hk2 _ ?_;refine hn1 (some ([0,1],none)) _ ?_;refine eS fun _ hn3 _ _ => ?_;refine eO fun _ hk4 => ?_;refine tL0 ?_;refine hk4 _ ?_;refine hn3 (some ([0,1,5],none)) _ ?_;refine eS fun _ hn5 _ _ => ?_;refine eS fun _ hn6 _ _ => ?_;refine eO fun _ hk7 => ?_;refine tL0 ?_;refine hk7 _ ?_;refine hn6 (some ([0,1,5,6],none)) _ ?_;refine eB fun _ _ hx8 _ _ => ?_;refine eW (PaInv b a) (b - a) (some ([0,1,5,6],some ([0],1))) ([.slot 5 (some 131) 2]) ?_ ?_
 ·try refine lp0 ?_
  exact ⟨a,[],by omega,by omega,by simp,by simp,by rfl⟩
 ·intro k S1 hI
  obtain ⟨i,done,hi,rfl,hdl,hd,rfl⟩ := hI
  have hcase : i = b ∨ i < b := by omega
  intro _ hn9 _ he9
  rcases hcase with rfl | hcc
  ·skip
   have v1 : ¬ (i : Int) < (i : Int) := by omega
   have F1 := @v1
   refine eS fun _ _ _ he10 => ?_;refine eS fun _ hn11 _ _ => ?_;refine eO fun _ hk12 => ?_;refine tZ F1 ?_;refine hk12 _ ?_;refine hn11 (some ([0,1,5,6,13],none)) _ ?_;refine eCf ?_;refine he10 0 _ ?_;refine he9 0 _ ?_;refine hx8 _ ?_;refine hn5 (some ([1,5],none)) _ ?_;refine eS fun _ hn13 _ _ => ?_;refine eS fun _ hn14 _ _ => ?_;refine eO fun _ hk15 => ?_;refine tL F1 ?_;refine hk15 _ ?_;refine hn14 (some ([1,5,8],none)) _ ?_;refine eB fun _ _ hx16 _ _ => ?_;refine eW (PbInv i a) (a) (some ([1,5,8],some ([0],1))) ([]) ?_ ?_
   ·try refine lp0 ?_
    exact ⟨0,done,by omega,by omega,by omega,by rw [← hd,segs_end (Nat.le_refl i),List.append_nil],by rfl⟩
   ·intro k S1 hI
    obtain ⟨j,done2,hj,rfl,hdl2,hd2,rfl⟩ := hI
    have hcase : j = a ∨ j < a := by omega
    intro _ hn17 _ he17
    rcases hcase with rfl | hcd
    ·skip
     have v1 : ¬ (j : Int) < (j : Int) := by omega
     have v9 : segs i i j ++ segs j j 0 = done2 := by rw [hd2,segs_end (Nat.le_refl j),List.append_nil]
     have F2 := And.intro F1 (And.intro @v1 @v9)
     refine eS fun _ _ _ he18 => ?_;refine eS fun _ hn19 _ _ => ?_;refine eO fun _ hk20 => ?_;refine tZ F2 ?_;refine hk20 _ ?_;refine hn19 (some ([1,5,8,29],none)) _ ?_;refine eCf ?_;refine he18 2 _ ?_;refine he17 2 _ ?_;refine hx16 _ ?_;refine hn13 (some ([5],none)) _ ?_;refine eS fun _ hn21 _ _ => ?_;refine eO fun _ hk22 => ?_;refine tL F2 ?_;refine hk22 _ ?_;refine hn21 (some ([4],none)) _ ?_
     exact sf1 F2
    ·skip
     have v1 : (j : Int) < (a : Int) := by omega
     have v2 := w1 j (by omega)
     have v3 := w2 j (by omega)
     have v4 := w3 j (by omega)
     have v5 := w4 a j
     have v6 := cutP_gt hcd
     have hs := segs_step hcd
     have v7 : (done2.length + 1) * 16 ≤ 140737488355328 := by omega
     have v8 : done2.map ePart ++ [[sI j,sI (cutP a j)]] = (done2 ++ [(j,cutP a j)]).map ePart := by simp
     have F3 := And.intro F1 (And.intro @v1 (And.intro @v2 (And.intro @v3 (And.intro @v4 (And.intro @v5 @v7)))))
     refine eS fun _ hn23 _ _ => ?_;refine eS fun _ hn24 _ _ => ?_;refine eO fun _ hk25 => ?_;refine tZ F3 ?_;refine hk25 _ ?_;refine hn24 (some ([1,5,8,29],none)) _ ?_;refine eCt ?_;refine hn23 (some ([1,5,8],none)) _ ?_;refine eB fun _ hn26 _ _ _ => ?_;refine eS fun _ hn27 _ _ => ?_;refine eO fun _ hk28 => ?_;refine tC 3 F3 ?_;refine tC 1 F3 ?_;refine tC 1 F3 ?_;refine tL F3 ?_;refine hk28 _ ?_;refine hn27 (some ([1,5,8,9],none)) _ ?_;refine eS fun _ hn29 _ _ => ?_;refine eO fun _ hk30 => ?_;refine tC 5 F3 ?_;refine tC 1 F3 ?_;refine tL F3 ?_;refine hk30 _ ?_;refine hn29 (some ([1,5,9],none)) _ ?_;refine eO fun _ hk31 => ?_;refine tL F3 ?_;refine hk31 _ ?_;refine hn26 _ ?_;refine hn17 (a - cutP a j) (some ([1,5,8],some ([1],1))) _ ?_ ?_
     all_goals try refine lp0 ?_
     ·omega
     ·exact ⟨cutP a j,done2 ++ [(j,cutP a j)],by omega,by omega,by simp; omega,by rw [hd2,hs,List.append_assoc]; rfl,by rw [v8]⟩
  ·skip
   have v1 : (i : Int) < (b : Int) := by omega
   have v2 := w1 i (by omega)
   have v3 := w2 i (by omega)
   have v4 := w3 i (by omega)
   have v5 := w4 b i
   have v6 := cutP_gt hcc
   have hs := segs_step hcc
   have v7 : (done.length + 1) * 16 ≤ 140737488355328 := by omega
   have v8 : done.map ePart ++ [[sI i,sI (cutP b i)]] = (done ++ [(i,cutP b i)]).map ePart := by simp
   have F4 := And.intro @v1 (And.intro @v2 (And.intro @v3 (And.intro @v4 (And.intro @v5 @v7))))
   refine eS fun _ hn32 _ _ => ?_;refine eS fun _ hn33 _ _ => ?_;refine eO fun _ hk34 => ?_;refine tZ F4 ?_;refine hk34 _ ?_;refine hn33 (some ([0,1,5,6,13],none)) _ ?_;refine eCt ?_;refine hn32 (some ([0,1,5,6],none)) _ ?_;refine eB fun _ hn35 _ _ _ => ?_;refine eS fun _ hn36 _ _ => ?_;refine eO fun _ hk37 => ?_;refine tC 3 F4 ?_;refine tC 1 F4 ?_;refine tC 1 F4 ?_;refine tL F4 ?_;refine hk37 _ ?_;refine hn36 (some ([0,1,5,6,7],none)) _ ?_;refine eS fun _ hn38 _ _ => ?_;refine eO fun _ hk39 => ?_;refine tC 5 F4 ?_;refine tC 1 F4 ?_;refine tL F4 ?_;refine hk39 _ ?_;refine hn38 (some ([0,1,5,7],none)) _ ?_;refine eO fun _ hk40 => ?_;refine tL F4 ?_;refine hk40 _ ?_;refine hn35 _ ?_;refine hn9 (b - cutP b i) (some ([0,1,5,6],some ([1],1))) _ ?_ ?_
   all_goals try refine lp0 ?_
   ·omega
   ·exact ⟨cutP b i,done ++ [(i,cutP b i)],by omega,by omega,by simp; omega,by rw [List.append_assoc,← hd,hs]; rfl,by rw [v8]⟩
end Go.Proofs.YtkmbcjnaaokilaaGreatDoor
