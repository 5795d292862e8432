/-
  Layer 4 by shadows: the memory, its small functions.
-/
import Derived.Test.YtkmbcjnaaokilaaGreatDoorMK17
import Derived.Test.YtkmbcjnaaokilaaGreatDoorMC
namespace Go.Proofs.YtkmbcjnaaokilaaGreatDoor
set_option linter.unusedSimpArgs false
set_option linter.unusedVariables false
open Go.RowKit Go.Maps
structure c6 where
 places : List (List jP)
 views : List hS
abbrev wE (f : hS) : List av := [DG f]
abbrev iF (M : c6) : av := .agg [.au 1 0 (M.places.map rA),.au 1 0 (M.views.map wE)]
structure gg (M : c6) (n : Nat) : Prop where
 pl : M.places.length ≤ 4096
 o2 : M.views.length ≤ 8
 one : ∀ h ∈ M.places,0 < h.length
 mn : ∀ h ∈ M.places,h.length ≤ n
 msgs : ∀ h ∈ M.places,∀ m ∈ h,mw m.view
 views : ∀ v ∈ M.views,mw v
def hl (M : c6) (t : Int) : Prop := 1 ≤ t ∧ t ≤ (M.views.length : Int)
def fq (M : c6) (a : Int) : Prop := 0 ≤ a ∧ a < (M.places.length : Int)
instance (M : c6) (t : Int) : Decidable (hl M t) := by unfold hl; infer_instance
instance (M : c6) (t : Int) : Decidable (fq M t) := by unfold fq; infer_instance
def mq (M : c6) (t a : Int) : Int := if ¬ hl M t then 3 else if ¬ fq M a then 1 else 0
def gL (M : c6) (t : Int) : hS := if 1 ≤ t then (M.views[(t - 1).toNat]?).getD fun _ => none else fun _ => none
def dI (M : c6) (a : Int) : List jP := if 0 ≤ a then (M.places[a.toNat]?).getD [] else []
def sx (M : c6) (t : Int) (v : hS) : c6 := { M with views := M.views.set (t - 1).toNat v }
noncomputable def mB (M : c6) (t a i : Int) (j : Bool) : c6 × bq :=
 (sx M t (if j = true then tj (l5 (gL M t) a i) (kQ (dI M a) i).view else l5 (gL M t) a i),(kQ (dI M a) i).word)
def th (M : c6) (t a : Int) (whole : Bool) : hS := if whole = true then l5 (gL M t) a (dI M a).length else l5 (fun _ => none) a (dI M a).length
def j4 (M : c6) (t a : Int) (w : bq) (whole : Bool) : c6 :=
 sx { M with places := M.places.set a.toNat (dI M a ++ [⟨w,t,th M t a whole⟩]) } t (l5 (gL M t) a (dI M a).length)
noncomputable def nc (M : c6) (t a : Int) (MX : Bool) (c : Int) : c6 × bq × Int :=
 if mq M t a = 0 then ((mB M t a (sJ (dI M a).length (gl (gL M t) a) c) MX).1,(mB M t a (sJ (dI M a).length (gl (gL M t) a) c) MX).2,0) else (M,gv,mq M t a)
noncomputable def fb (M : c6) (t a : Int) : c6 × bq × Int :=
 if mq M t a = 0 then ((mB M t a ((dI M a).length - 1) true).1,(mB M t a ((dI M a).length - 1) true).2,0) else (M,gv,mq M t a)
def nH (M : c6) (t a : Int) (w : bq) (rel : Bool) : c6 × Int :=
 if mq M t a = 0 then (j4 M t a w rel,0) else (M,mq M t a)
def mY (a b : bq) : Bool := a.val == b.val && (a.eZ == b.eZ && a.ref == b.ref)
theorem Mc {a b : bq} : mY a b = true ↔ a = b := by
 cases a; cases b; simp [mY]
theorem Uw (a : bq) : mY a a = true := Mc.2 rfl
noncomputable def ih (M : c6) (t a : Int) (old new : bq) : c6 × bq × Bool × Int :=
 if mq M t a = 0 ∧ mY (fb M t a).2.1 old = true then (j4 (fb M t a).1 t a new true,(fb M t a).2.1,true,0) else ((fb M t a).1,(fb M t a).2.1,false,(fb M t a).2.2)
theorem y9 {M : c6} {a : Int} (h : fq M a) : ∃ m : Nat,a = (m : Int) ∧ m < M.places.length ∧ M.places[m]? = some (dI M a) ∧ dI M a ∈ M.places := by
 obtain ⟨m,rfl⟩ := Int.eq_ofNat_of_zero_le h.1
 have hm : m < M.places.length := by have := h.2; omega
 have e : M.places[m]? = some (dI M m) := by
  unfold dI
  rw [if_pos (by omega),Int.toNat_natCast,List.getElem?_eq_getElem hm]; rfl
 exact ⟨m,rfl,hm,e,List.mem_of_getElem? e⟩
theorem LZ {M : c6} {t : Int} (h : hl M t) : ∃ m : Nat,t = (m : Int) + 1 ∧ m < M.views.length ∧ M.views[m]? = some (gL M t) ∧ gL M t ∈ M.views := by
 obtain ⟨af,aj⟩ := h
 obtain ⟨m,hm⟩ := Int.eq_ofNat_of_zero_le (show 0 ≤ t - 1 by omega)
 have aF : m < M.views.length := by omega
 have e : M.views[m]? = some (gL M t) := by
  unfold gL
  rw [if_pos af,hm,Int.toNat_natCast,List.getElem?_eq_getElem aF]; rfl
 exact ⟨m,by omega,aF,e,List.mem_of_getElem? e⟩
theorem xV {M : c6} {n : Nat} (bk : gg M n) (t : Int) : mw (gL M t) := by
 unfold gL
 split
 ·cases e : M.views[(t - 1).toNat]? with
  | none => exact wb
  | some v => exact bk.views v (List.mem_of_getElem? e)
 ·exact wb
theorem xE {M : c6} {n : Nat} (bk : gg M n) {a : Int} (h : fq M a) : Db a ∧ 0 ≤ a ∧ a < 4096 := by
 have := bk.pl
 obtain ⟨af,aj⟩ := h
 exact ⟨⟨by omega,by omega⟩,by omega,by omega⟩
theorem pF {M : c6} {t a : Int} : mq M t a = 0 ↔ hl M t ∧ fq M a := by
 unfold mq
 by_cases af : hl M t <;> by_cases aj : fq M a <;> simp [af,aj]
theorem agy (M : c6) : cu 68 [iF M] (.bR [aI M.views.length,aI M.places.length]) := by
 refine df Tryz.func68 akp rfl ?_
 unfold bJ TD Sv;delta ab aa aA
 refine ae fun _ aK _ _ => ai fun _ aG => ?_;refine cz ?_;refine aG _ (aK (some ([1],none)) _ (ae fun _ aQ _ _ => ?_));refine hy [] (n := 7) fun _ bh => ?_;refine hv ?_;refine DP 2 ?_;refine DP 3 ?_;refine aaI ?_;refine bh _ ?_;refine hx ?_;refine cz ?_;refine aQ (some ([2,3],none)) _ ?_
 exact jb
theorem B1 (M : c6) (t : Int) : cu 119 [iF M,aI t] (dH (decide (hl M t))) := by
 refine df Tryz.func119 aks rfl ?_
 unfold hl
 by_cases af : 1 ≤ t <;> by_cases aj : t ≤ (M.views.length : Int)
 all_goals
  unfold bJ TE Sw;delta ab a9 aa aA a6
  have ad := And.intro @af @aj
  refine ae fun _ aK _ _ => ai fun _ aG => ?_;refine an ad ?_;refine aG _ (aK (some ([1,2],none)) _ (ae fun _ aQ _ _ => ai fun _ bh => ?_));refine ag 2 ad ?_;refine ag 4 ad ?_;refine ag 2 ad ?_;refine an ad ?_;refine bh _ (aQ (some ([4],none)) _ ?_)
  exact cO ad
theorem Fj (M : c6) (t : Int) : cu 95 [iF M,aI t] (dH (decide (fq M t))) := by
 refine df Tryz.func95 akn rfl ?_
 unfold fq
 by_cases af : 0 ≤ t <;> by_cases aj : t < (M.places.length : Int)
 all_goals
  unfold bJ TC Su;delta ab a9 aa aA a6
  have ad := And.intro @af @aj
  refine ae fun _ aK _ _ => ai fun _ aG => ?_;refine an ad ?_;refine aG _ (aK (some ([1,2],none)) _ (ae fun _ aQ _ _ => ai fun _ bh => ?_));refine ag 2 ad ?_;refine ag 4 ad ?_;refine ag 2 ad ?_;refine an ad ?_;refine bh _ (aQ (some ([4],none)) _ ?_)
  exact cO ad
theorem Kg (M : c6) (t a : Int) : cu 108 [iF M,aI t,aI a] (aI (mq M t a)) := by
 refine df Tryz.func108 aku rfl ?_
 unfold mq
 by_cases af : hl M t
 ·have d1 : decide (hl M t) = true := decide_eq_true af
  rw [if_neg (Decidable.not_not.2 af)]
  by_cases aj : fq M a
  ·have d2 : decide (fq M a) = true := decide_eq_true aj
   rw [if_neg (Decidable.not_not.2 aj)]
   unfold bJ FX FM;delta ab aa aA
   have ad := And.intro @d1 @d2
   refine ae fun bz aK b6 cb => ai fun b7 aG => ?_;refine an ad ?_;refine aG _ (aK (some ([1,2,3],none)) _ (ae fun b8 aQ bt b5 => cx fun b9 bG kE c7 dF => ae fun cD bT dG eG => ai fun cv de => ?_));refine ag 1 ad ?_;refine aL 1 ad ?_;refine aL 1 ad ?_;refine Or.inl (Or.inl ⟨_,B1 M t,?_⟩);refine an ad ?_;refine de _ (bT (some ([2,3,7],none)) _ (bB (ae fun cC cp ek ft => ai fun dy c0 => ?_)));refine ag 1 ad ?_;refine aL 1 ad ?_;refine aL 1 ad ?_;refine Or.inl (Or.inl ⟨_,Fj M a,?_⟩);refine an ad ?_;refine c0 _ (cp (some ([12],none)) _ (bB (bG _ (aQ (some ([],none)) _ (ae fun bo cN hM gR => ai fun ey cF => ?_)))));refine an ad ?_;refine cF _ (cN (some ([6],none)) _ ?_)
   exact cO ad
  ·have d2 : decide (fq M a) = false := decide_eq_false aj
   rw [if_pos aj]
   unfold bJ FX FM;delta ab aa aA
   have ad := And.intro @d1 @d2
   refine ae fun bz aK b6 cb => ai fun b7 aG => ?_;refine an ad ?_;refine aG _ (aK (some ([1,2,3],none)) _ (ae fun b8 aQ bt b5 => cx fun b9 bG kE c7 dF => ae fun cD bT dG eG => ai fun cv de => ?_));refine ag 1 ad ?_;refine aL 1 ad ?_;refine aL 1 ad ?_;refine Or.inl (Or.inl ⟨_,B1 M t,?_⟩);refine an ad ?_;refine de _ (bT (some ([2,3,7],none)) _ (bB (ae fun cC cp ek ft => ai fun dy c0 => ?_)));refine ag 1 ad ?_;refine aL 1 ad ?_;refine aL 1 ad ?_;refine Or.inl (Or.inl ⟨_,Fj M a,?_⟩);refine an ad ?_;refine c0 _ (cp (some ([12],none)) _ (bY (ae fun bo cN hM gR => ai fun ey cF => ?_)));refine an ad ?_;refine cF _ (cN (some ([6],none)) _ (c7 _ (bt _ ?_)))
   exact cO ad
 ·have d1 : decide (hl M t) = false := decide_eq_false af
  rw [if_pos af]
  unfold bJ FX FM;delta ab aa aA
  have ad := @d1
  refine ae fun bz aK b6 cb => ai fun b7 aG => ?_;refine an ad ?_;refine aG _ (aK (some ([1,2,3],none)) _ (ae fun b8 aQ bt b5 => cx fun b9 bG kE c7 dF => ae fun cD bT dG eG => ai fun cv de => ?_));refine ag 1 ad ?_;refine aL 1 ad ?_;refine aL 1 ad ?_;refine Or.inl (Or.inl ⟨_,B1 M t,?_⟩);refine an ad ?_;refine de _ (bT (some ([2,3,7],none)) _ (bY (ae fun cC cp ek ft => ai fun dy c0 => ?_)));refine an ad ?_;refine c0 _ (cp (some ([6],none)) _ (c7 _ (bt _ ?_)))
  exact cO ad
theorem B0 (M : c6) (t : Int) (bj : M.views.length ≤ 8) : cu 114 [iF M,aI t] (sO (gL M t)) := by
 refine df Tryz.func114 ako rfl ?_
 by_cases af : hl M t
 ·have d1 : decide (hl M t) = true := decide_eq_true af
  obtain ⟨m,rfl,hm,e,_⟩ := LZ af
  have bL : IntKind.i64.wrap ((m : Int) + 1 - 1) = (m : Int) := by rw [IntKind.wrap_i64]; omega
  unfold bJ LA K7;delta ab aR aa aA
  have ad := And.intro @d1 (And.intro @bL @e)
  refine ae fun bz aK b6 cb => ai fun b7 aG => ?_;refine an ad ?_;refine aG _ (aK (some ([1,2,4],none)) _ (ae fun b8 aQ bt b5 => ae fun b9 bG c7 dF => ai fun cD bZ => ?_));refine ag 1 ad ?_;refine aL 1 ad ?_;refine aL 1 ad ?_;refine Or.inl (Or.inl ⟨_,B1 M _,?_⟩);refine an ad ?_;refine bZ _ (bG (some ([1,2,4,8],none)) _ (bB (aQ (some ([1,2,4],none)) _ (ae fun cv bp cY dk => ai fun cC bD => ?_))));refine ag 2 ad ?_;refine ag 2 ad ?_;refine ag 1 ad ?_;refine ag 1 ad ?_;refine aU ad ?_;refine bD _ (bp (some ([4],none)) _ ?_)
  exact cO ad
 ·have d1 : decide (hl M t) = false := decide_eq_false af
  have e : gL M t = fun _ => none := by
   unfold gL
   split
   ·rw [List.getElem?_eq_none (by unfold hl at af; omega)]; rfl
   ·rfl
  rw [e]
  unfold bJ LA K7;delta ab aR aa aA
  have ad := @d1
  refine ae fun bz aK b6 cb => ai fun b7 aG => ?_;refine an ad ?_;refine aG _ (aK (some ([1,2,4],none)) _ (ae fun b8 aQ bt b5 => ae fun b9 bG c7 dF => ai fun cD bZ => ?_));refine ag 1 ad ?_;refine aL 1 ad ?_;refine aL 1 ad ?_;refine Or.inl (Or.inl ⟨_,B1 M t,?_⟩);refine an ad ?_;refine bZ _ (bG (some ([1,2,4,8],none)) _ (bY (ae fun cv bp cY dk => ai fun cC bD => ?_)));refine aU ad ?_;refine bD _ (bp (some ([4],none)) _ (bt _ ?_));refine jc ad ?_
  rfl
theorem agu (M : c6) (a : Int) : cu 83 [iF M,aI a] (.bR [rz (dI M a),dH (decide (fq M a))]) := by
 refine df Tryz.func83 aki rfl ?_
 by_cases af : fq M a
 ·have d1 : decide (fq M a) = true := decide_eq_true af
  obtain ⟨m,rfl,hm,e,_⟩ := y9 af
  unfold bJ Ly K6;delta ab aR aa a6
  have ad := And.intro @d1 @e
  refine ae fun bz aK b6 cb => ai fun b7 aG => ?_;refine an ad ?_;refine aG _ (aK (some ([1,2,4],none)) _ (ae fun b8 aQ bt b5 => ae fun b9 bG c7 dF => ai fun cD bZ => ?_));refine ag 1 ad ?_;refine aL 1 ad ?_;refine aL 1 ad ?_;refine Or.inl (Or.inl ⟨_,Fj M _,?_⟩);refine an ad ?_;refine bZ _ (bG (some ([1,2,4,9],none)) _ (bB (aQ (some ([1,2,4],none)) _ (ae fun cv bp cY dk => ai fun cC bD => ?_))));refine ag 2 ad ?_;refine ag 2 ad ?_;refine ag 1 ad ?_;refine ag 1 ad ?_;refine an ad ?_;refine bD _ (bp (some ([4,5],none)) _ ?_)
  exact cO ad
 ·have d1 : decide (fq M a) = false := decide_eq_false af
  have e : dI M a = [] := by
   unfold dI
   split
   ·rw [List.getElem?_eq_none (by unfold fq at af; omega)]; rfl
   ·rfl
  rw [e]
  unfold bJ Ly K6;delta ab aR aa a6
  have ad := @d1
  refine ae fun bz aK b6 cb => ai fun b7 aG => ?_;refine an ad ?_;refine aG _ (aK (some ([1,2,4],none)) _ (ae fun b8 aQ bt b5 => ae fun b9 bG c7 dF => ai fun cD bZ => ?_));refine ag 1 ad ?_;refine aL 1 ad ?_;refine aL 1 ad ?_;refine Or.inl (Or.inl ⟨_,Fj M a,?_⟩);refine an ad ?_;refine bZ _ (bG (some ([1,2,4,9],none)) _ (bY (ae fun cv bp cY dk => ai fun cC bD => ?_)));refine ag 2 ad ?_;refine an ad ?_;refine bD _ (bp (some ([4,5],none)) _ (bt _ ?_));refine jc ad ?_
  rfl
def iJ (M : c6) (a : Int) : bq := (yX (dI M a)).word
theorem A1 {M : c6} {n : Nat} (bk : gg M n) (a : Int) : (dI M a).length ≤ n := by
 unfold dI
 split
 ·cases e : M.places[a.toNat]? with
  | none => simp
  | some h => exact bk.mn h (List.mem_of_getElem? e)
 ·simp
theorem agv (M : c6) (a : Int) {n : Nat} (bk : gg M n) (a7 : n ≤ 100000) : cu 69 [iF M,aI a] (.bR [.agg (dj (iJ M a)),dH (decide (fq M a))]) := by
 refine df Tryz.func69 akj rfl ?_
 have aF := A1 bk a
 unfold bJ Tz Sr;delta ab aR aa a6
 refine ae fun _ aK _ _ => ai fun _ aG => ?_;refine cz ?_;refine aG _ (aK (some ([1,2,4],none)) _ (ae fun _ aQ _ _ => ai fun _ bh => ?_));refine cV 1 ?_;refine eu 1 ?_;refine eu 1 ?_;refine Or.inl (Or.inl ⟨_,agu M a,?_⟩);refine cV 5 ?_;refine cz ?_;refine bh _ (aQ (some ([4,6,7],none)) _ (ae fun _ bT _ _ => ai fun _ de => ?_));refine cV 1 ?_;refine eu 1 ?_;refine Or.inl (Or.inl ⟨_,af6 _ (by omega),?_⟩);refine cV 3 ?_;refine cz ?_;refine de _ (bT (some ([4,5],none)) _ ?_);refine Ct ?_
 rfl
theorem QZ (M : c6) (t : Int) (v : hS) (aO : hl M t) (bj : M.views.length ≤ 8) : cu 118 [iF M,aI t,sO v] (iF (sx M t v)) := by
 refine df Tryz.func118 akt rfl ?_
 obtain ⟨m,rfl,hm,e,_⟩ := LZ aO
 have bL : IntKind.i64.wrap ((m : Int) + 1 - 1) = (m : Int) := by rw [IntKind.wrap_i64]; omega
 have cd : (M.views.map wE).take M.views.length = M.views.map wE := by rw [List.take_of_length_le (by simp)]
 have dV : (List.replicate M.views.length [av.mp 76 fun _ => none]).drop M.views.length = [] := by simp
 have fW : ((m : Int) + 1 - 1).toNat = m := by omega
 unfold bJ TF Sx;delta ab aR aa aA
 have ad := And.intro @bL (And.intro @cd (And.intro @dV @e))
 refine ae fun _ aK _ _ => ai fun _ aG => ?_;refine an ad ?_;refine aG _ (aK (some ([1,3,5,6],none)) _ (ae fun _ aQ _ _ => ai fun _ bh => ?_));refine ag 2 ad ?_;refine ag 2 ad ?_;refine an ad ?_;refine bh _ (aQ (some ([1,3,5,6,7],none)) _ (ae fun _ bT _ _ => ai fun _ de => ?_));refine ag 3 ad ?_;refine aU ad ?_;refine de _ (bT (some ([1,3,5,6,7],none)) _ (ae fun _ cp _ _ => ai fun _ c0 => ?_));refine ag 3 ad ?_;refine ag 1 ad ?_;refine ag 1 ad ?_;refine aU ad ?_;refine c0 _ (cp (some ([3,6,7],none)) _ (ae fun _ cN _ _ => ai fun _ cF => ?_));refine aU ad ?_;refine cF _ (cN (some ([3,6],none)) _ (ae fun _ ct _ _ => ai fun _ cG => ?_));refine ag 1 ad ?_;refine aU ad ?_;refine cG _ (ct (some ([6],none)) _ ?_);refine jc ad ?_
 simp [sx,fW,List.map_set]
end Go.Proofs.YtkmbcjnaaokilaaGreatDoor
