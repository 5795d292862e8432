/-
  Layer 11 by shadows: layouts.
-/
import Derived.Test.YtkmbcjnaaokilaaGreatDoorMC
import Derived.Test.YtkmbcjnaaokilaaGreatDoorMK12
namespace Go.Proofs.YtkmbcjnaaokilaaGreatDoor
set_option linter.unusedSimpArgs false
set_option linter.unusedVariables false
open Go.RowKit Go.Maps
structure cc where
 threads : Int
 cells : Int
 blocks : Int
abbrev fe (l : cc) : List av := [aI l.threads,aI l.cells,aI l.blocks]
def rv (l : cc) : Prop := (1 ≤ l.threads ∧ l.threads ≤ 8) ∧ (1 ≤ l.cells ∧ l.cells ≤ 2048) ∧ (0 ≤ l.blocks ∧ l.blocks ≤ 64)
instance (l : cc) : Decidable (rv l) := by unfold rv; infer_instance
def ml (l : cc) : Nat → Int
 | 0 => 1 | 1 => l.threads | 2 => l.threads | 3 => l.cells | 4 => l.threads | 5 => l.blocks | 6 => l.blocks | _ => 0
def lx : Nat → Int
 | 0 => 8 | 1 => 8 | 2 => 8 | 3 => 1 | 4 => 104 | 5 => 0 | 6 => 32 | _ => 0
def e2 (l : cc) (p : Nat) : Int := ((if lx p = 0 ∧ 0 < ml l p then 8 else ml l p * lx p) + 7) / 8 * 8
def dp (l : cc) : Nat → Int
 | 0 => 0
 | p + 1 => dp l p + e2 l p
def fj (l : cc) : Int := if rv l then (if 4096 < dp l 7 then 19 else 0) else 3
def zq (l : cc) : Int := if fj l = 0 then dp l 7 else 0
def g9 (l : cc) (p : Nat) (i more : Int) : Int := if fj l = 0 ∧ 0 ≤ i ∧ i < ml l p then dp l p + i * lx p + more else -1
theorem JP {l : cc} (h : rv l) (p : Nat) : 0 ≤ ml l p ∧ ml l p ≤ 2048 := by
 obtain ⟨⟨a,b⟩,⟨c,d⟩,e,f⟩ := h
 unfold ml; split <;> omega
theorem size_le (p : Nat) : 0 ≤ lx p ∧ lx p ≤ 104 := by unfold lx; split <;> omega
theorem lo {l : cc} (h : rv l) (p : Nat) : 0 ≤ e2 l p ∧ e2 l p ≤ 213000 := by
 obtain ⟨a,b⟩ := JP h p
 obtain ⟨c,d⟩ := size_le p
 have af : 0 ≤ ml l p * lx p := Int.mul_nonneg a c
 have aj : ml l p * lx p ≤ 2048 * 104 := Int.mul_le_mul b d c (by omega)
 unfold e2
 split <;> omega
theorem tK {l : cc} (h : rv l) : ∀ p,0 ≤ dp l p ∧ dp l p ≤ 213000 * p
 | 0 => ⟨Int.le_refl _,by show (0 : Int) ≤ 213000 * (0 : Nat); decide⟩
 | p + 1 => by
  have dO := tK h p
  have := lo h p
  unfold dp
  omega
theorem ku {l : cc} (h : fj l = 0) : rv l ∧ dp l 7 ≤ 4096 := by
 unfold fj at h
 split at h
 ·rename_i af
  split at h
  ·cases h
  ·exact ⟨af,by omega⟩
 ·cases h
theorem aee : (Tryz.prog.info? 3).map (fun i => (i.zero,i.size,i.bytes)) = some (some (.int .i64 0),1,8) := by kernel_rfl
set_option maxHeartbeats 2000000 in
theorem QW (l : cc) (p : Nat) (hp : p < 7) : cu 79 [.agg (fe l),aI p] (aI (ml l p)) := by
 refine df Tryz.func79 akb rfl ?_
 have aey : ∀ w,(isAgg 3).run Tryz.prog w = .ok false w := Tryz.isAgg3
 obtain ⟨ans,acv,_,adP,_⟩ := info_parts aee
 have aH : [aI 1,aI l.threads,aI l.threads,aI l.cells,aI l.threads,aI l.blocks,aI l.blocks][p]? = some (aI (ml l p)) :=
  match p,hp with
  | 0,_ => rfl | 1,_ => rfl | 2,_ => rfl | 3,_ => rfl | 4,_ => rfl | 5,_ => rfl | 6,_ => rfl
 generalize ml l p = m at aH
 unfold bJ Tv Sn;delta ab aa aA
 refine ae fun _ aK _ _ => ai fun _ aG => ?_;refine cz ?_;refine aG _ (aK (some ([1,2],none)) _ (ae fun _ aQ _ _ => ai fun _ bh => ?_));refine cV 2 ?_;refine cV 2 ?_;refine cV 2 ?_;refine cV 2 ?_;refine cV 2 ?_;refine cV 2 ?_;refine eu 2 ?_;refine eu 1 ?_;refine Or.inl ⟨_,aa8 (n := (p : Int)) Tryz.underlying147 acv adP aey (by omega) (by omega) (by rw [Int.toNat_natCast]; exact aH),?_⟩;refine cz ?_;refine bh _ (aQ (some ([4],none)) _ ?_)
 exact jb
theorem Oh : (yC.lookup 0).map (fun vs => av.dc (vs.map av.v) 0) = some (.dc [aI 8,aI 8,aI 8,aI 1,aI 104,aI 0,aI 32] 0) := rfl
set_option maxHeartbeats 4000000 in
theorem agq (l : cc) (p : Nat) (hp : p < 7) (aF : rv l) : cu 78 [.agg (fe l),aI p] (aI (e2 l p)) := by
 refine df Tryz.func78 aka rfl ?_
 have b2 := QW l p hp
 have hm := JP aF p
 have ao := size_le p
 have aH : [aI 8,aI 8,aI 8,aI 1,aI 104,aI 0,aI 32][p]? = some (aI (lx p)) :=
  match p,hp with
  | 0,_ => rfl | 1,_ => rfl | 2,_ => rfl | 3,_ => rfl | 4,_ => rfl | 5,_ => rfl | 6,_ => rfl
 have fs : (0 : Nat) + p * 1 = p := by omega
 have Aj : (0 : Nat) + p = p := by omega
 have af : 0 ≤ ml l p * lx p := Int.mul_nonneg hm.1 ao.1
 have aj : ml l p * lx p ≤ 2048 * 104 := Int.mul_le_mul hm.2 ao.2 ao.1 (by omega)
 have gs := Oh
 have nK : (p : Int) < 7 := by omega
 unfold e2
 generalize ml l p = m at *
 generalize lx p = s at *
 have fh : IntKind.i64.wrap (m * s) = m * s := by rw [IntKind.wrap_i64]; omega
 have cE : ∀ x : Int,0 ≤ x → x ≤ 212992 → IntKind.i64.wrap (x + 8) = x + 8 := fun x _ _ => by rw [IntKind.wrap_i64]; omega
 have dQ : ∀ x : Int,0 ≤ x → x ≤ 212992 → IntKind.i64.wrap (x + 8 - 1) = x + 7 := fun x _ _ => by rw [IntKind.wrap_i64]; omega
 have gm : ∀ x : Int,0 ≤ x → x ≤ 212992 → IntKind.i64.wrap ((x + 7).tdiv 8) = (x + 7) / 8 := fun x _ _ => by rw [IntKind.wrap_i64,Int.tdiv_eq_ediv_of_nonneg (by omega)]; omega
 have hO : ∀ x : Int,0 ≤ x → x ≤ 212992 → IntKind.i64.wrap ((x + 7) / 8 * 8) = (x + 7) / 8 * 8 := fun x _ _ => by rw [IntKind.wrap_i64]; omega
 have Mi : ¬ (8 : Int) = 0 := by decide
 by_cases bO : s = 0
 ·subst bO
  by_cases bb : 0 < m
  ·rw [if_pos ⟨rfl,bb⟩]
   unfold bJ FV FK;delta ab a9 aa aA a6
   have ad := And.intro @gs (And.intro @aH (And.intro @fs (And.intro @Aj (And.intro @nK (And.intro @fh (And.intro @bb @Mi))))))
   refine ae fun bz aK b6 cb => ai fun b7 aG => ?_;refine an ad ?_;refine aG _ (aK (some ([1,2],none)) _ (ae fun b8 aQ bt b5 => ?_));refine hy [] (n := 6) fun b9 bh => ?_;refine hv ?_;refine cR 1 ad ?_;refine gj 1 ad ?_;refine gj 1 ad ?_;refine ⟨_,b2,?_⟩;refine cR 2 ad ?_;refine pc ad ?_;refine bh _ ?_;refine hx ?_;refine ag 1 ad ?_;refine an ad ?_;refine aQ (some ([1,2,5],none)) _ (ae fun cv bp cY dk => ae fun cC cp ek ft => ai fun dy c0 => ?_);refine ag 2 ad ?_;refine ag 1 ad ?_;refine ag 1 ad ?_;refine ag 2 ad ?_;refine aL 1 ad ?_;refine aL 1 ad ?_;refine Or.inl (Or.inl ⟨_,b2,?_⟩);refine ag 1 ad ?_;refine an ad ?_;refine c0 _ (cp (some ([5,22],none)) _ (bY (ai fun bo aP => ?_)));refine an ad ?_;refine aP _ (bp (some ([5],none)) _ (ae fun ey ee _ _ => ?_))
   refine ai fun _ eU => ?_;refine ag 2 ad ?_;refine ag 1 ad ?_;refine ag 1 ad ?_;refine ag 1 ad ?_;refine an ad ?_;refine eU _ (ee (some ([4],none)) _ ?_);refine jc ad ?_
   rfl
  ·have qc : m = 0 := by omega
   subst qc
   rw [if_neg (by simp)]
   unfold bJ FV FK;delta ab a9 aa aA a6
   have ad := And.intro @gs (And.intro @aH (And.intro @fs (And.intro @Aj (And.intro @nK (And.intro @fh (And.intro @bb @Mi))))))
   refine ae fun bz aK b6 cb => ai fun b7 aG => ?_;refine an ad ?_;refine aG _ (aK (some ([1,2],none)) _ (ae fun b8 aQ bt b5 => ?_));refine hy [] (n := 6) fun b9 bh => ?_;refine hv ?_;refine cR 1 ad ?_;refine gj 1 ad ?_;refine gj 1 ad ?_;refine ⟨_,b2,?_⟩;refine cR 2 ad ?_;refine pc ad ?_;refine bh _ ?_;refine hx ?_;refine ag 1 ad ?_;refine an ad ?_;refine aQ (some ([1,2,5],none)) _ (ae fun cv bp cY dk => ae fun cC cp ek ft => ai fun dy c0 => ?_);refine ag 2 ad ?_;refine ag 1 ad ?_;refine ag 1 ad ?_;refine ag 2 ad ?_;refine aL 1 ad ?_;refine aL 1 ad ?_;refine Or.inl (Or.inl ⟨_,b2,?_⟩);refine ag 1 ad ?_;refine an ad ?_;refine c0 _ (cp (some ([5,22],none)) _ (bB (bp (some ([5],none)) _ (ae fun bo cN hM gR => ai fun ey cF => ?_))));refine ag 2 ad ?_;refine ag 1 ad ?_
   refine ag 1 ad ?_;refine ag 1 ad ?_;refine an ad ?_;refine cF _ (cN (some ([4],none)) _ ?_);refine jc ad ?_
   rfl
 ·rw [if_neg (fun h => bO h.1)]
  have d : (s == 0) = false := by simpa using bO
  have bP := cE (m * s) af (by omega)
  have cK := dQ (m * s) af (by omega)
  have a4 := gm (m * s) af (by omega)
  have fY := hO (m * s) af (by omega)
  unfold bJ FV FK;delta ab a9 aa aA a6
  have ad := And.intro @gs (And.intro @aH (And.intro @fs (And.intro @Aj (And.intro @nK (And.intro @fh (And.intro @d (And.intro @Mi (And.intro @bP (And.intro @cK (And.intro @a4 @fY))))))))))
  refine ae fun bz aK b6 cb => ai fun b7 aG => ?_;refine an ad ?_;refine aG _ (aK (some ([1,2],none)) _ (ae fun b8 aQ bt b5 => ?_));refine hy [] (n := 6) fun b9 bh => ?_;refine hv ?_;refine cR 1 ad ?_;refine gj 1 ad ?_;refine gj 1 ad ?_;refine ⟨_,b2,?_⟩;refine cR 2 ad ?_;refine pc ad ?_;refine bh _ ?_;refine hx ?_;refine ag 1 ad ?_;refine an ad ?_;refine aQ (some ([1,2,5],none)) _ (ae fun cv bp cY dk => ae fun cC cp ek ft => ai fun dy c0 => ?_);refine ag 2 ad ?_;refine ag 1 ad ?_;refine ag 1 ad ?_;refine ag 2 ad ?_;refine aL 1 ad ?_;refine aL 1 ad ?_
  skip
  refine ag 1 ad ?_;refine an ad ?_;refine c0 _ (cp (some ([5,22],none)) _ (bB (bp (some ([5],none)) _ (ae fun bo cN hM gR => ai fun ey cF => ?_))));refine ag 2 ad ?_;refine ag 1 ad ?_;refine ag 1 ad ?_;refine ag 1 ad ?_;refine an ad ?_;refine cF _ (cN (some ([4],none)) _ ?_)
  exact cO ad
def Vb (l : cc) (p : Nat) (k : Nat) (S : ak) : Prop :=
 ∃ i : Nat,i ≤ p ∧ k = p - i ∧ S = ⟨[(2,.ptr 0 0 0),(5,aI (dp l i)),(7,aI p),(8,aI i)],[(0,.box 25 (fe l))],1⟩
set_option maxHeartbeats 2000000 in
theorem Kd (l : cc) (p : Nat) (hp : p ≤ 7) (aF : rv l) : cu 60 [.agg (fe l),aI p] (aI (dp l p)) := by
 refine df Tryz.func60 aj9 rfl ?_
 unfold bJ Tu Sm;delta ab aa aA
 refine ae fun _ aK _ _ => ai fun _ aG => ?_;refine cz ?_;refine aG _ (aK (some ([1,2],none)) _ (ae fun _ aQ _ _ => ai fun _ bh => ?_));refine cz ?_;refine bh _ (aQ (some ([1,2,5],none)) _ (ae fun _ bT _ _ => ae fun _ bp _ _ => ai fun _ bD => ?_));refine cz ?_;refine bD _ (bp (some ([2,5,7,8],none)) _ (cx fun _ _ xq _ _ => ?_));refine jS (Vb l p) (p) (some ([2,5,7,8],some ([0],1))) ([]) ?_ ?_
 ·try refine eC ?_
  exact ⟨0,by omega,by omega,by rfl⟩
 ·intro k b0 aY
  obtain ⟨i,aq,rfl,rfl⟩ := aY
  have eF : i = p ∨ i < p := by omega
  intro _ cN _ gR
  rcases eF with dT | dT
  ·skip
   have cE : ¬ (i : Int) < (p : Int) := by omega
   subst dT
   have ad := @cE
   refine ae fun _ ee _ _ => ai fun _ eU => ?_;refine aU ad ?_;refine eU _ (ee (some ([2,5,7,8,9],none)) _ (ae fun _ _ _ j7 => bB (j7 0 _ (gR 0 _ (xq _ (bT (some ([5],none)) _ (ae fun _ dJ _ _ => ai fun _ dt => ?_)))))));refine an ad ?_;refine dt _ (dJ (some ([4],none)) _ ?_)
   exact cO ad
  ·skip
   have cE : (i : Int) < (p : Int) := by omega
   have dQ : IntKind.i64.wrap ((i : Int) + 1) = ((i + 1 : Nat) : Int) := by rw [IntKind.wrap_i64]; omega
   have b2 := agq l i (by omega) aF
   have af := lo aF i
   have aj := tK aF i
   have gm : IntKind.i64.wrap (dp l i + e2 l i) = dp l (i + 1) := by rw [IntKind.wrap_i64]; show _ = dp l i + e2 l i; omega
   have aD := And.intro @cE (And.intro @dQ @gm)
   refine ae fun _ gK _ _ => ai fun _ gq => ?_;refine aU aD ?_;refine gq _ (gK (some ([2,5,7,8,9],none)) _ (ae fun _ kd _ _ => bY (kd (some ([2,5,7,8],none)) _ (ae fun _ ic _ _ => cx fun _ h4 _ _ _ => ae fun _ ix _ _ => ai fun _ ht => ?_))));refine an aD ?_;refine ht _ (ix (some ([2,5,6,7,8],none)) _ (ai fun _ gr => ?_));refine ag 2 aD ?_;refine aL 1 aD ?_;refine aL 1 aD ?_;refine Or.inl (Or.inl ⟨_,b2,?_⟩);refine ag 1 aD ?_;refine an aD ?_;refine gr _ (h4 _ (ic (some ([2,5,7,8],none)) _ (ai fun _ hK => ?_)));refine ag 1 aD ?_;refine an aD ?_;refine hK _ ?_;refine cN (p - (i + 1)) (some ([2,5,7,8],some ([0],1))) _ ?_ ?_
   all_goals try refine eC ?_
   ·omega
   ·exact ⟨i + 1,by omega,by omega,rfl⟩
theorem Kb (n a b : Int) : cu 77 [aI n,aI a,aI b] (dH (decide (a ≤ n ∧ n ≤ b))) := by
 refine df Tryz.func77 aj3 rfl ?_
 by_cases af : a ≤ n
 ·have e : decide (a ≤ n ∧ n ≤ b) = decide (n ≤ b) := decide_eq_decide.2 ⟨fun h => h.2,fun h => ⟨af,h⟩⟩
  rw [e]
  unfold bJ Lu K2;delta ab a9 aa a6
  have ad := @af
  refine ae fun bz aK b6 cb => ai fun b7 aG => ?_;refine an ad ?_;refine aG _ (aK (some ([0,1,2],none)) _ (ae fun b8 aQ bt b5 => ai fun b9 bh => ?_));refine ag 3 ad ?_;refine ag 4 ad ?_;refine an ad ?_;refine bh _ (aQ (some ([6],none)) _ ?_)
  exact cO ad
 ·rw [decide_eq_false (fun h => af h.1)]
  unfold bJ Lu K2;delta ab a9 aa a6
  have ad := @af
  refine ae fun bz aK b6 cb => ai fun b7 aG => ?_;refine an ad ?_;refine aG _ (aK (some ([0,1,2],none)) _ (ae fun b8 aQ bt b5 => ai fun b9 bh => ?_));refine ag 3 ad ?_;refine ag 4 ad ?_;refine an ad ?_;refine bh _ (aQ (some ([6],none)) _ ?_)
  exact cO ad
set_option maxHeartbeats 2000000 in
theorem Kc (l : cc) : cu 59 [.agg (fe l)] (aI (fj l)) := by
 refine df Tryz.func59 aj6 rfl ?_
 have b2 := Kb l.threads 1 8
 have cy := Kb l.cells 1 2048
 have k2 := Kb l.blocks 0 64
 unfold fj
 by_cases bb : 1 ≤ l.threads ∧ l.threads ≤ 8
 case neg =>
  rw [if_neg (fun h => bb h.1)]
  rw [decide_eq_false bb] at b2
  unfold bJ zn zi;delta ab aa aA
  refine ae fun bz aK b6 cb => ai fun b7 aG => ?_;refine cz ?_;refine aG _ (aK (some ([1],none)) _ (ae fun b8 aQ bt b5 => cx fun b9 bG kE c7 dF => ae fun cD bT dG eG => ae fun cv bp cY dk => ai fun cC bD => ?_));refine cV 2 ?_;refine eu 1 ?_;refine Or.inl (Or.inl ⟨_,b2,?_⟩);refine cz ?_;refine bD _ (bp (some ([1,3],none)) _ (bY (bT (some ([1,3],none)) _ (bY (ae fun dy ck gV gA => ai fun bo aP => ?_)))));refine cz ?_;refine aP _ (ck (some ([2],none)) _ (c7 _ (bt _ ?_)))
  exact jb
 rw [decide_eq_true bb] at b2
 by_cases af : 1 ≤ l.cells ∧ l.cells ≤ 2048
 case neg =>
  rw [if_neg (fun h => af h.2.1)]
  rw [decide_eq_false af] at cy
  unfold bJ zn zi;delta ab aa aA
  refine ae fun bz aK b6 cb => ai fun b7 aG => ?_;refine cz ?_;refine aG _ (aK (some ([1],none)) _ (ae fun b8 aQ bt b5 => cx fun b9 bG kE c7 dF => ae fun cD bT dG eG => ae fun cv bp cY dk => ai fun cC bD => ?_));refine cV 2 ?_;refine eu 1 ?_;refine Or.inl (Or.inl ⟨_,b2,?_⟩);refine cz ?_;refine bD _ (bp (some ([1,3],none)) _ (bB (ae fun dy ck gV gA => ai fun bo aP => ?_)));refine cV 2 ?_;refine eu 1 ?_;refine Or.inl (Or.inl ⟨_,cy,?_⟩);refine cz ?_;refine aP _ (ck (some ([1,3],none)) _ (bY (bT (some ([1,3],none)) _ (bY (ae fun ey ee _ _ => ai fun fB eU => ?_)))));refine cz ?_;refine eU _ (ee (some ([2],none)) _ (c7 _ (bt _ ?_)))
  exact jb
 rw [decide_eq_true af] at cy
 by_cases aj : 0 ≤ l.blocks ∧ l.blocks ≤ 64
 case neg =>
  rw [if_neg (fun h => aj h.2.2)]
  rw [decide_eq_false aj] at k2
  unfold bJ zn zi;delta ab aa aA
  refine ae fun bz aK b6 cb => ai fun b7 aG => ?_;refine cz ?_;refine aG _ (aK (some ([1],none)) _ (ae fun b8 aQ bt b5 => cx fun b9 bG kE c7 dF => ae fun cD bT dG eG => ae fun cv bp cY dk => ai fun cC bD => ?_));refine cV 2 ?_;refine eu 1 ?_;refine Or.inl (Or.inl ⟨_,b2,?_⟩);refine cz ?_;refine bD _ (bp (some ([1,3],none)) _ (bB (ae fun dy ck gV gA => ai fun bo aP => ?_)));refine cV 2 ?_;refine eu 1 ?_;refine Or.inl (Or.inl ⟨_,cy,?_⟩);refine cz ?_;refine aP _ (ck (some ([1,3],none)) _ (bB (ai fun ey cF => ?_)));refine cV 2 ?_;refine eu 1 ?_;refine Or.inl (Or.inl ⟨_,k2,?_⟩);refine cz ?_;refine cF _ (bT (some ([1,3],none)) _ (bY (ae fun fB ct hL gU => ai fun fN cG => ?_)))
  refine cz ?_;refine cG _ (ct (some ([2],none)) _ (c7 _ (bt _ ?_)))
  exact jb
 rw [decide_eq_true aj] at k2
 have ax : rv l := ⟨bb,af,aj⟩
 rw [if_pos ax]
 have nb := Kd l 7 (by omega) ax
 by_cases aw : 4096 < dp l 7
 ·rw [if_pos aw]
  generalize dp l 7 = x at nb aw
  unfold bJ zn zi;delta ab aa aA
  have ad := @aw
  refine ae fun bz aK b6 cb => ai fun b7 aG => ?_;refine an ad ?_;refine aG _ (aK (some ([1],none)) _ (ae fun b8 aQ bt b5 => cx fun b9 bG kE c7 dF => ae fun cD bT dG eG => ae fun cv bp cY dk => ai fun cC bD => ?_));refine ag 2 ad ?_;refine aL 1 ad ?_;refine Or.inl (Or.inl ⟨_,b2,?_⟩);refine an ad ?_;refine bD _ (bp (some ([1,3],none)) _ (bB (ae fun dy ck gV gA => ai fun bo aP => ?_)));refine ag 2 ad ?_;refine aL 1 ad ?_;refine Or.inl (Or.inl ⟨_,cy,?_⟩);refine an ad ?_;refine aP _ (ck (some ([1,3],none)) _ (bB (ai fun ey cF => ?_)));refine ag 2 ad ?_;refine aL 1 ad ?_;refine Or.inl (Or.inl ⟨_,k2,?_⟩);refine an ad ?_;refine cF _ (bT (some ([1,3],none)) _ (bB (ae fun fB ct hL gU => ai fun fN cG => ?_)))
  refine ag 1 ad ?_;refine aL 1 ad ?_;refine Or.inl (Or.inl ⟨_,nb,?_⟩);refine ag 1 ad ?_;refine an ad ?_;refine cG _ (ct (some ([16],none)) _ (bY (ae fun gG dJ mN kW => ai fun gZ dt => ?_)));refine an ad ?_;refine dt _ (dJ (some ([2],none)) _ (c7 _ (bt _ ?_)))
  exact cO ad
 ·rw [if_neg aw]
  generalize dp l 7 = x at nb aw
  unfold bJ zn zi;delta ab aa aA
  have ad := @aw
  refine ae fun bz aK b6 cb => ai fun b7 aG => ?_;refine an ad ?_;refine aG _ (aK (some ([1],none)) _ (ae fun b8 aQ bt b5 => cx fun b9 bG kE c7 dF => ae fun cD bT dG eG => ae fun cv bp cY dk => ai fun cC bD => ?_));refine ag 2 ad ?_;refine aL 1 ad ?_;refine Or.inl (Or.inl ⟨_,b2,?_⟩);refine an ad ?_;refine bD _ (bp (some ([1,3],none)) _ (bB (ae fun dy ck gV gA => ai fun bo aP => ?_)));refine ag 2 ad ?_;refine aL 1 ad ?_;refine Or.inl (Or.inl ⟨_,cy,?_⟩);refine an ad ?_;refine aP _ (ck (some ([1,3],none)) _ (bB (ai fun ey cF => ?_)));refine ag 2 ad ?_;refine aL 1 ad ?_;refine Or.inl (Or.inl ⟨_,k2,?_⟩);refine an ad ?_;refine cF _ (bT (some ([1,3],none)) _ (bB (ae fun fB ct hL gU => ai fun fN cG => ?_)))
  refine ag 1 ad ?_;refine aL 1 ad ?_;refine Or.inl (Or.inl ⟨_,nb,?_⟩);refine ag 1 ad ?_;refine an ad ?_;refine cG _ (ct (some ([16],none)) _ (bB (bG _ (aQ (some ([],none)) _ (ae fun gG dJ mN kW => ai fun gZ dt => ?_)))));refine an ad ?_;refine dt _ (dJ (some ([2],none)) _ ?_)
  exact cO ad
theorem Ke (l : cc) : cu 29 [.agg (fe l)] (dH (fj l == 0)) := by
 refine df Tryz.func29 akc rfl ?_
 have b2 := Kc l
 generalize fj l = c at b2 ⊢
 unfold bJ Tw So;delta ab aa aA a6
 refine ae fun _ aK _ _ => ai fun _ aG => ?_;refine cz ?_;refine aG _ (aK (some ([1],none)) _ (ae fun _ aQ _ _ => ai fun _ bh => ?_));refine cV 1 ?_;refine eu 1 ?_;refine Or.inl (Or.inl ⟨_,b2,?_⟩);refine cV 1 ?_;refine cz ?_;refine bh _ (aQ (some ([2],none)) _ ?_)
 exact jb
theorem Kf (l : cc) : cu 30 [.agg (fe l)] (aI (zq l)) := by
 refine df Tryz.func30 akd rfl ?_
 have b2 := Ke l
 unfold zq
 by_cases h : fj l = 0
 ·rw [if_pos h]
  rw [h] at b2
  have cy := Kd l 7 (by omega) (ku h).1
  generalize dp l 7 = x at cy ⊢
  unfold bJ Lv K3;delta ab aa aA
  refine ae fun bz aK b6 cb => ai fun b7 aG => ?_;refine cz ?_;refine aG _ (aK (some ([1],none)) _ (ae fun b8 aQ bt b5 => ae fun b9 bG c7 dF => ai fun cD bZ => ?_));refine cV 1 ?_;refine eu 1 ?_;refine Or.inl (Or.inl ⟨_,b2,?_⟩);refine cz ?_;refine bZ _ (bG (some ([1,5],none)) _ (bB (aQ (some ([1],none)) _ (ae fun cv bp cY dk => ai fun cC bD => ?_))));refine cV 1 ?_;refine eu 1 ?_;refine Or.inl (Or.inl ⟨_,cy,?_⟩);refine cz ?_;refine bD _ (bp (some ([2],none)) _ ?_)
  exact jb
 ·rw [if_neg h]
  rw [show (fj l == 0) = false by simpa using h] at b2
  unfold bJ Lv K3;delta ab aa aA
  refine ae fun bz aK b6 cb => ai fun b7 aG => ?_;refine cz ?_;refine aG _ (aK (some ([1],none)) _ (ae fun b8 aQ bt b5 => ae fun b9 bG c7 dF => ai fun cD bZ => ?_));refine cV 1 ?_;refine eu 1 ?_;refine Or.inl (Or.inl ⟨_,b2,?_⟩);refine cz ?_;refine bZ _ (bG (some ([1,5],none)) _ (bY (ae fun cv bp cY dk => ai fun cC bD => ?_)));refine cz ?_;refine bD _ (bp (some ([2],none)) _ (bt _ ?_))
  exact jb
set_option maxHeartbeats 4000000 in
theorem Fi (l : cc) (p : Nat) (hp : p < 7) (i more : Int) (hm : -10000 ≤ more ∧ more ≤ 10000) : cu 61 [.agg (fe l),aI p,aI i,aI more] (aI (g9 l p i more)) := by
 refine df Tryz.func61 aj2 rfl ?_
 have b2 := Ke l
 have cy := QW l p hp
 unfold g9
 by_cases h : fj l = 0
 case neg =>
  rw [if_neg (fun dh => h dh.1)]
  rw [show (fj l == 0) = false by simpa using h] at b2
  unfold bJ Cq Cj;delta ab a9 aa aA a6
  refine ae fun bz aK b6 cb => ai fun b7 aG => ?_;refine cz ?_;refine aG _ (aK (some ([1,2,3,4],none)) _ (ae fun b8 aQ bt b5 => ae fun b9 bG c7 dF => ai fun cD bZ => ?_));refine cV 1 ?_;refine eu 1 ?_;refine Or.inl (Or.inl ⟨_,b2,?_⟩);refine cV 4 ?_;refine cV 4 ?_;refine eu 1 ?_;refine eu 1 ?_
  skip
  refine cV 1 ?_;refine cz ?_;refine bZ _ (bG (some ([1,2,3,4,22],none)) _ (bY (ae fun cv bp cY dk => ai fun cC bD => ?_)));refine cz ?_;refine bD _ (bp (some ([8],none)) _ (bt _ ?_))
  exact jb
 rw [h] at b2
 by_cases af : i < 0
 ·rw [if_neg (by omega)]
  unfold bJ Cq Cj;delta ab a9 aa aA a6
  have ad := @af
  refine ae fun bz aK b6 cb => ai fun b7 aG => ?_;refine an ad ?_;refine aG _ (aK (some ([1,2,3,4],none)) _ (ae fun b8 aQ bt b5 => ae fun b9 bG c7 dF => ai fun cD bZ => ?_));refine ag 1 ad ?_;refine aL 1 ad ?_;refine Or.inl (Or.inl ⟨_,b2,?_⟩);refine ag 4 ad ?_;refine ag 4 ad ?_;refine aL 1 ad ?_;refine aL 1 ad ?_
  skip
  refine ag 1 ad ?_;refine an ad ?_;refine bZ _ (bG (some ([1,2,3,4,22],none)) _ (bY (ae fun cv bp cY dk => ai fun cC bD => ?_)));refine an ad ?_;refine bD _ (bp (some ([8],none)) _ (bt _ ?_))
  exact cO ad
 by_cases aj : ml l p ≤ i
 ·rw [if_neg (by omega)]
  generalize ml l p = m at cy aj
  unfold bJ Cq Cj;delta ab a9 aa aA a6
  have ad := And.intro @af @aj
  refine ae fun bz aK b6 cb => ai fun b7 aG => ?_;refine an ad ?_;refine aG _ (aK (some ([1,2,3,4],none)) _ (ae fun b8 aQ bt b5 => ae fun b9 bG c7 dF => ai fun cD bZ => ?_));refine ag 1 ad ?_;refine aL 1 ad ?_;refine Or.inl (Or.inl ⟨_,b2,?_⟩);refine ag 4 ad ?_;refine ag 4 ad ?_;refine aL 1 ad ?_;refine aL 1 ad ?_;refine Or.inl (Or.inl ⟨_,cy,?_⟩);refine ag 1 ad ?_;refine an ad ?_;refine bZ _ (bG (some ([1,2,3,4,22],none)) _ (bY (ae fun cv bp cY dk => ai fun cC bD => ?_)));refine an ad ?_;refine bD _ (bp (some ([8],none)) _ (bt _ ?_))
  exact cO ad
 rw [if_pos ⟨h,by omega,by omega⟩]
 obtain ⟨ax,cA⟩ := ku h
 have k2 := Kd l p (by omega) ax
 have aW := tK ax p
 have kC := JP ax p
 have ao := size_le p
 have aH : [aI 8,aI 8,aI 8,aI 1,aI 104,aI 0,aI 32][p]? = some (aI (lx p)) :=
  match p,hp with
  | 0,_ => rfl | 1,_ => rfl | 2,_ => rfl | 3,_ => rfl | 4,_ => rfl | 5,_ => rfl | 6,_ => rfl
 have fs : (0 : Nat) + p * 1 = p := by omega
 have Aj : (0 : Nat) + p = p := by omega
 have gs := Oh
 have nK : (p : Int) < 7 := by omega
 have uL : 0 ≤ i * lx p := Int.mul_nonneg (by omega) ao.1
 have x1 : i * lx p ≤ 2048 * 104 := Int.mul_le_mul (by omega) ao.2 ao.1 (by omega)
 have AU : dp l p ≤ 213000 * 7 := by
  have := aW.2
  have : (213000 : Int) * p ≤ 213000 * 7 := by omega
  omega
 generalize dp l p = f at *
 generalize ml l p = m at cy aj
 generalize lx p = s at *
 have fh : IntKind.i64.wrap (i * s) = i * s := by rw [IntKind.wrap_i64]; omega
 have cE : IntKind.i64.wrap (f + i * s) = f + i * s := by rw [IntKind.wrap_i64]; omega
 have dQ : IntKind.i64.wrap (f + i * s + more) = f + i * s + more := by rw [IntKind.wrap_i64]; omega
 unfold bJ Cq Cj;delta ab a9 aa aA a6
 have ad := And.intro @af (And.intro @aj (And.intro @gs (And.intro @aH (And.intro @fs (And.intro @Aj (And.intro @nK (And.intro @fh (And.intro @cE @dQ))))))))
 refine ae fun bz aK b6 cb => ai fun b7 aG => ?_;refine an ad ?_;refine aG _ (aK (some ([1,2,3,4],none)) _ (ae fun b8 aQ bt b5 => ae fun b9 bG c7 dF => ai fun cD bZ => ?_));refine ag 1 ad ?_;refine aL 1 ad ?_;refine Or.inl (Or.inl ⟨_,b2,?_⟩);refine ag 4 ad ?_;refine ag 4 ad ?_;refine aL 1 ad ?_;refine aL 1 ad ?_;refine Or.inl (Or.inl ⟨_,cy,?_⟩);refine ag 1 ad ?_;refine an ad ?_;refine bZ _ (bG (some ([1,2,3,4,22],none)) _ (bB (aQ (some ([1,2,3,4],none)) _ (ae fun cv bp cY dk => ?_))));refine hy [] (n := 10) fun cC bD => ?_;refine hv ?_;refine cR 1 ad ?_;refine gj 1 ad ?_;refine gj 1 ad ?_;refine ⟨_,k2,?_⟩;refine cR 3 ad ?_;refine cR 1 ad ?_;refine cR 1 ad ?_;refine cR 1 ad ?_;refine lJ ad ?_;refine bD _ ?_;refine hx ?_;refine ag 1 ad ?_;refine an ad ?_;refine bp (some ([8],none)) _ ?_
 exact cO ad
theorem agp (l : cc) : cu 31 [.agg (fe l)] (aI (g9 l 0 0 1)) := by
 refine df Tryz.func31 aj7 rfl ?_
 have b2 := Fi l 0 (by omega) 0 1 (by omega)
 generalize g9 l 0 0 1 = x at b2 ⊢
 unfold bJ Ts Sk;delta ab aa aA
 refine ae fun _ aK _ _ => ai fun _ aG => ?_;refine cz ?_;refine aG _ (aK (some ([1],none)) _ (ae fun _ aQ _ _ => ai fun _ bh => ?_));refine cV 1 ?_;refine eu 1 ?_;refine Or.inl (Or.inl ⟨_,b2,?_⟩);refine cz ?_;refine bh _ (aQ (some ([2],none)) _ ?_)
 exact jb
theorem agr (l : cc) (t : Int) : cu 32 [.agg (fe l),aI t] (aI (g9 l 4 (IntKind.i64.wrap (t - 1)) 0)) := by
 refine df Tryz.func32 ake rfl ?_
 have b2 := Fi l 4 (by omega) (IntKind.i64.wrap (t - 1)) 0 (by omega)
 generalize g9 l 4 (IntKind.i64.wrap (t - 1)) 0 = x at b2 ⊢
 unfold bJ Tx Sp;delta ab aa aA
 refine ae fun _ aK _ _ => ai fun _ aG => ?_;refine cz ?_;refine aG _ (aK (some ([1,2],none)) _ (ae fun _ aQ _ _ => ai fun _ bh => ?_));refine cV 1 ?_;refine cV 2 ?_;refine eu 1 ?_;refine Or.inl (Or.inl ⟨_,b2,?_⟩);refine cz ?_;refine bh _ (aQ (some ([4],none)) _ ?_)
 exact jb
theorem ago (l : cc) (i : Int) : cu 33 [.agg (fe l),aI i] (aI (g9 l 6 i 0)) := by
 refine df Tryz.func33 aj5 rfl ?_
 have b2 := Fi l 6 (by omega) i 0 (by omega)
 generalize g9 l 6 i 0 = x at b2 ⊢
 unfold bJ Tr Sj;delta ab aa aA
 refine ae fun _ aK _ _ => ai fun _ aG => ?_;refine cz ?_;refine aG _ (aK (some ([1,2],none)) _ (ae fun _ aQ _ _ => ai fun _ bh => ?_));refine cV 1 ?_;refine eu 1 ?_;refine eu 1 ?_;refine Or.inl (Or.inl ⟨_,b2,?_⟩);refine cz ?_;refine bh _ (aQ (some ([4],none)) _ ?_)
 exact jb
end Go.Proofs.YtkmbcjnaaokilaaGreatDoor
