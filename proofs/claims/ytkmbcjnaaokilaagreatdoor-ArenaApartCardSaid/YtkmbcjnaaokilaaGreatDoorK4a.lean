/-
  Layer 4 by shadows: the memory, its small functions.
-/
import Derived.Test.YtkmbcjnaaokilaaGreatDoorMK12
import Derived.Test.YtkmbcjnaaokilaaGreatDoorMC
namespace Go.Proofs.YtkmbcjnaaokilaaGreatDoor
set_option linter.unusedSimpArgs false
set_option linter.unusedVariables false
open Go.RowKit Go.Maps
structure c8 where
 places : List (List j5)
 views : List h5
abbrev yf (f : h5) : List aw := [FE f]
abbrev iZ (M : c8) : aw := .agg [.au 1 0 (M.places.map sJ),.au 1 0 (M.views.map yf)]
structure gp (M : c8) (n : Nat) : Prop where
 pl : M.places.length ≤ 4096
 p4 : M.views.length ≤ 8
 one : ∀ h ∈ M.places,0 < h.length
 mZ : ∀ h ∈ M.places,h.length ≤ n
 msgs : ∀ h ∈ M.places,∀ m ∈ h,m6 m.view
 views : ∀ v ∈ M.views,m6 v
def hA (M : c8) (t : Int) : Prop := 1 ≤ t ∧ t ≤ (M.views.length : Int)
def fC (M : c8) (a : Int) : Prop := 0 ≤ a ∧ a < (M.places.length : Int)
instance (M : c8) (t : Int) : Decidable (hA M t) := by unfold hA; infer_instance
instance (M : c8) (t : Int) : Decidable (fC M t) := by unfold fC; infer_instance
def m2 (M : c8) (t a : Int) : Int := if ¬ hA M t then 3 else if ¬ fC M a then 1 else 0
def gS (M : c8) (t : Int) : h5 := if 1 ≤ t then (M.views[(t - 1).toNat]?).getD fun _ => none else fun _ => none
def dV (M : c8) (a : Int) : List j5 := if 0 ≤ a then (M.places[a.toNat]?).getD [] else []
def tA (M : c8) (t : Int) (v : h5) : c8 := { M with views := M.views.set (t - 1).toNat v }
noncomputable def nb (M : c8) (t a i : Int) (j : Bool) : c8 × bm :=
 (tA M t (if j = true then uA (mH (gS M t) a i) (lb (dV M a) i).view else mH (gS M t) a i),(lb (dV M a) i).word)
def ux (M : c8) (t a : Int) (whole : Bool) : h5 := if whole = true then mH (gS M t) a (dV M a).length else mH (fun _ => none) a (dV M a).length
def kr (M : c8) (t a : Int) (w : bm) (whole : Bool) : c8 :=
 tA { M with places := M.places.set a.toNat (dV M a ++ [⟨w,t,ux M t a whole⟩]) } t (mH (gS M t) a (dV M a).length)
noncomputable def ny (M : c8) (t a : Int) (PN : Bool) (c : Int) : c8 × bm × Int :=
 if m2 M t a = 0 then ((nb M t a (tO (dV M a).length (gy (gS M t) a) c) PN).1,(nb M t a (tO (dV M a).length (gy (gS M t) a) c) PN).2,0) else (M,gE,m2 M t a)
noncomputable def fh (M : c8) (t a : Int) : c8 × bm × Int :=
 if m2 M t a = 0 then ((nb M t a ((dV M a).length - 1) true).1,(nb M t a ((dV M a).length - 1) true).2,0) else (M,gE,m2 M t a)
def oB (M : c8) (t a : Int) (w : bm) (rel : Bool) : c8 × Int :=
 if m2 M t a = 0 then (kr M t a w rel,0) else (M,m2 M t a)
def nH (a b : bm) : Bool := a.val == b.val && (a.eV == b.eV && a.ref == b.ref)
theorem OZ {a b : bm} : nH a b = true ↔ a = b := by
 cases a; cases b; simp [nH]
theorem XN (a : bm) : nH a a = true := OZ.2 rfl
noncomputable def iD (M : c8) (t a : Int) (old new : bm) : c8 × bm × Bool × Int :=
 if m2 M t a = 0 ∧ nH (fh M t a).2.1 old = true then (kr (fh M t a).1 t a new true,(fh M t a).2.1,true,0) else ((fh M t a).1,(fh M t a).2.1,false,(fh M t a).2.2)
theorem AP {M : c8} {a : Int} (h : fC M a) : ∃ m : Nat,a = (m : Int) ∧ m < M.places.length ∧ M.places[m]? = some (dV M a) ∧ dV M a ∈ M.places := by
 obtain ⟨m,rfl⟩ := Int.eq_ofNat_of_zero_le h.1
 have hm : m < M.places.length := by have := h.2; omega
 have e : M.places[m]? = some (dV M m) := by
  unfold dV
  rw [if_pos (by omega),Int.toNat_natCast,List.getElem?_eq_getElem hm]; rfl
 exact ⟨m,rfl,hm,e,List.mem_of_getElem? e⟩
theorem OJ {M : c8} {t : Int} (h : hA M t) : ∃ m : Nat,t = (m : Int) + 1 ∧ m < M.views.length ∧ M.views[m]? = some (gS M t) ∧ gS M t ∈ M.views := by
 obtain ⟨af,aj⟩ := h
 obtain ⟨m,hm⟩ := Int.eq_ofNat_of_zero_le (show 0 ≤ t - 1 by omega)
 have aE : m < M.views.length := by omega
 have e : M.views[m]? = some (gS M t) := by
  unfold gS
  rw [if_pos af,hm,Int.toNat_natCast,List.getElem?_eq_getElem aE]; rfl
 exact ⟨m,by omega,aE,e,List.mem_of_getElem? e⟩
theorem zB {M : c8} {n : Nat} (bA : gp M n) (t : Int) : m6 (gS M t) := by
 unfold gS
 split
 ·cases e : M.views[(t - 1).toNat]? with
  | none => exact xR
  | some v => exact bA.views v (List.mem_of_getElem? e)
 ·exact xR
theorem zk {M : c8} {n : Nat} (bA : gp M n) {a : Int} (h : fC M a) : ET a ∧ 0 ≤ a ∧ a < 4096 := by
 have := bA.pl
 obtain ⟨af,aj⟩ := h
 exact ⟨⟨by omega,by omega⟩,by omega,by omega⟩
theorem qF {M : c8} {t a : Int} : m2 M t a = 0 ↔ hA M t ∧ fC M a := by
 unfold m2
 by_cases af : hA M t <;> by_cases aj : fC M a <;> simp [af,aj]
theorem aj4 (M : c8) : cq 68 [iZ M] (.bY [aG M.views.length,aG M.places.length]) := by
 refine df Tryz.func68 an6 rfl ?_
 unfold bK WU VJ;delta ab aa ay
 refine ae fun _ aK _ _ => ai fun _ aH => ?_;refine cE ?_;refine aH _ (aK (some ([1],none)) _ (ae fun _ aP _ _ => ?_));refine gh [] (n := 7) fun _ bk => ?_;refine gY ?_;refine FP 2 ?_;refine FP 3 ?_;refine ad9 ?_;refine bk _ ?_;refine gZ ?_;refine cE ?_;refine aP (some ([2,3],none)) _ ?_
 exact jq
theorem DO (M : c8) (t : Int) : cq 119 [iZ M,aG t] (eA (decide (hA M t))) := by
 refine df Tryz.func119 an9 rfl ?_
 unfold hA
 by_cases af : 1 ≤ t <;> by_cases aj : t ≤ (M.views.length : Int)
 all_goals
  unfold bK WV VK;delta ab a8 aa ay a3
  have ad := And.intro @af @aj
  refine ae fun _ aK _ _ => ai fun _ aH => ?_;refine al ad ?_;refine aH _ (aK (some ([1,2],none)) _ (ae fun _ aP _ _ => ai fun _ bk => ?_));refine ag 2 ad ?_;refine ag 4 ad ?_;refine ag 2 ad ?_;refine al ad ?_;refine bk _ (aP (some ([4],none)) _ ?_)
  exact cQ ad
theorem Hl (M : c8) (t : Int) : cq 95 [iZ M,aG t] (eA (decide (fC M t))) := by
 refine df Tryz.func95 an4 rfl ?_
 unfold fC
 by_cases af : 0 ≤ t <;> by_cases aj : t < (M.places.length : Int)
 all_goals
  unfold bK WT VI;delta ab a8 aa ay a3
  have ad := And.intro @af @aj
  refine ae fun _ aK _ _ => ai fun _ aH => ?_;refine al ad ?_;refine aH _ (aK (some ([1,2],none)) _ (ae fun _ aP _ _ => ai fun _ bk => ?_));refine ag 2 ad ?_;refine ag 4 ad ?_;refine ag 2 ad ?_;refine al ad ?_;refine bk _ (aP (some ([4],none)) _ ?_)
  exact cQ ad
theorem MM (M : c8) (t a : Int) : cq 108 [iZ M,aG t,aG a] (aG (m2 M t a)) := by
 refine df Tryz.func108 aob rfl ?_
 unfold m2
 by_cases af : hA M t
 ·have d1 : decide (hA M t) = true := decide_eq_true af
  rw [if_neg (Decidable.not_not.2 af)]
  by_cases aj : fC M a
  ·have d2 : decide (fC M a) = true := decide_eq_true aj
   rw [if_neg (Decidable.not_not.2 aj)]
   unfold bK HU HJ;delta ab aa ay
   have ad := And.intro @d1 @d2
   refine ae fun bD aK b9 ck => ai fun ca aH => ?_;refine al ad ?_;refine aH _ (aK (some ([1,2,3],none)) _ (ae fun cg aP bx b8 => cj fun ch bI kV dd dU => ae fun cM bV dQ eP => ai fun cG dk => ?_));refine ag 1 ad ?_;refine aM 1 ad ?_;refine aM 1 ad ?_;refine Or.inl (Or.inl ⟨_,DO M t,?_⟩);refine al ad ?_;refine dk _ (bV (some ([2,3,7],none)) _ (bs (ae fun cI cz ey fp => ai fun dB c7 => ?_)));refine ag 1 ad ?_;refine aM 1 ad ?_;refine aM 1 ad ?_;refine Or.inl (Or.inl ⟨_,Hl M a,?_⟩);refine al ad ?_;refine c7 _ (cz (some ([12],none)) _ (bs (bI _ (aP (some ([],none)) _ (ae fun bz cR h1 gQ => ai fun eK cK => ?_)))));refine al ad ?_;refine cK _ (cR (some ([6],none)) _ ?_)
   exact cQ ad
  ·have d2 : decide (fC M a) = false := decide_eq_false aj
   rw [if_pos aj]
   unfold bK HU HJ;delta ab aa ay
   have ad := And.intro @d1 @d2
   refine ae fun bD aK b9 ck => ai fun ca aH => ?_;refine al ad ?_;refine aH _ (aK (some ([1,2,3],none)) _ (ae fun cg aP bx b8 => cj fun ch bI kV dd dU => ae fun cM bV dQ eP => ai fun cG dk => ?_));refine ag 1 ad ?_;refine aM 1 ad ?_;refine aM 1 ad ?_;refine Or.inl (Or.inl ⟨_,DO M t,?_⟩);refine al ad ?_;refine dk _ (bV (some ([2,3,7],none)) _ (bs (ae fun cI cz ey fp => ai fun dB c7 => ?_)));refine ag 1 ad ?_;refine aM 1 ad ?_;refine aM 1 ad ?_;refine Or.inl (Or.inl ⟨_,Hl M a,?_⟩);refine al ad ?_;refine c7 _ (cz (some ([12],none)) _ (bU (ae fun bz cR h1 gQ => ai fun eK cK => ?_)));refine al ad ?_;refine cK _ (cR (some ([6],none)) _ (dd _ (bx _ ?_)))
   exact cQ ad
 ·have d1 : decide (hA M t) = false := decide_eq_false af
  rw [if_pos af]
  unfold bK HU HJ;delta ab aa ay
  have ad := @d1
  refine ae fun bD aK b9 ck => ai fun ca aH => ?_;refine al ad ?_;refine aH _ (aK (some ([1,2,3],none)) _ (ae fun cg aP bx b8 => cj fun ch bI kV dd dU => ae fun cM bV dQ eP => ai fun cG dk => ?_));refine ag 1 ad ?_;refine aM 1 ad ?_;refine aM 1 ad ?_;refine Or.inl (Or.inl ⟨_,DO M t,?_⟩);refine al ad ?_;refine dk _ (bV (some ([2,3,7],none)) _ (bU (ae fun cI cz ey fp => ai fun dB c7 => ?_)));refine al ad ?_;refine c7 _ (cz (some ([6],none)) _ (dd _ (bx _ ?_)))
  exact cQ ad
theorem DN (M : c8) (t : Int) (bj : M.views.length ≤ 8) : cq 114 [iZ M,aG t] (tR (gS M t)) := by
 refine df Tryz.func114 an5 rfl ?_
 by_cases af : hA M t
 ·have d1 : decide (hA M t) = true := decide_eq_true af
  obtain ⟨m,rfl,hm,e,_⟩ := OJ af
  have bJ : IntKind.i64.wrap ((m : Int) + 1 - 1) = (m : Int) := by rw [IntKind.wrap_i64]; omega
  unfold bK Od NK;delta ab aQ aa ay
  have ad := And.intro @d1 (And.intro @bJ @e)
  refine ae fun bD aK b9 ck => ai fun ca aH => ?_;refine al ad ?_;refine aH _ (aK (some ([1,2,4],none)) _ (ae fun cg aP bx b8 => ae fun ch bI dd dU => ai fun cM b0 => ?_));refine ag 1 ad ?_;refine aM 1 ad ?_;refine aM 1 ad ?_;refine Or.inl (Or.inl ⟨_,DO M _,?_⟩);refine al ad ?_;refine b0 _ (bI (some ([1,2,4,8],none)) _ (bs (aP (some ([1,2,4],none)) _ (ae fun cG bp c5 dn => ai fun cI bE => ?_))));refine ag 2 ad ?_;refine ag 2 ad ?_;refine ag 1 ad ?_;refine ag 1 ad ?_;refine aS ad ?_;refine bE _ (bp (some ([4],none)) _ ?_)
  exact cQ ad
 ·have d1 : decide (hA M t) = false := decide_eq_false af
  have e : gS M t = fun _ => none := by
   unfold gS
   split
   ·rw [List.getElem?_eq_none (by unfold hA at af; omega)]; rfl
   ·rfl
  rw [e]
  unfold bK Od NK;delta ab aQ aa ay
  have ad := @d1
  refine ae fun bD aK b9 ck => ai fun ca aH => ?_;refine al ad ?_;refine aH _ (aK (some ([1,2,4],none)) _ (ae fun cg aP bx b8 => ae fun ch bI dd dU => ai fun cM b0 => ?_));refine ag 1 ad ?_;refine aM 1 ad ?_;refine aM 1 ad ?_;refine Or.inl (Or.inl ⟨_,DO M t,?_⟩);refine al ad ?_;refine b0 _ (bI (some ([1,2,4,8],none)) _ (bU (ae fun cG bp c5 dn => ai fun cI bE => ?_)));refine aS ad ?_;refine bE _ (bp (some ([4],none)) _ (bx _ ?_));refine jr ad ?_
  rfl
theorem aj0 (M : c8) (a : Int) : cq 83 [iZ M,aG a] (.bY [sI (dV M a),eA (decide (fC M a))]) := by
 refine df Tryz.func83 anZ rfl ?_
 by_cases af : fC M a
 ·have d1 : decide (fC M a) = true := decide_eq_true af
  obtain ⟨m,rfl,hm,e,_⟩ := AP af
  unfold bK Oc NJ;delta ab aQ aa a3
  have ad := And.intro @d1 @e
  refine ae fun bD aK b9 ck => ai fun ca aH => ?_;refine al ad ?_;refine aH _ (aK (some ([1,2,4],none)) _ (ae fun cg aP bx b8 => ae fun ch bI dd dU => ai fun cM b0 => ?_));refine ag 1 ad ?_;refine aM 1 ad ?_;refine aM 1 ad ?_;refine Or.inl (Or.inl ⟨_,Hl M _,?_⟩);refine al ad ?_;refine b0 _ (bI (some ([1,2,4,9],none)) _ (bs (aP (some ([1,2,4],none)) _ (ae fun cG bp c5 dn => ai fun cI bE => ?_))));refine ag 2 ad ?_;refine ag 2 ad ?_;refine ag 1 ad ?_;refine ag 1 ad ?_;refine al ad ?_;refine bE _ (bp (some ([4,5],none)) _ ?_)
  exact cQ ad
 ·have d1 : decide (fC M a) = false := decide_eq_false af
  have e : dV M a = [] := by
   unfold dV
   split
   ·rw [List.getElem?_eq_none (by unfold fC at af; omega)]; rfl
   ·rfl
  rw [e]
  unfold bK Oc NJ;delta ab aQ aa a3
  have ad := @d1
  refine ae fun bD aK b9 ck => ai fun ca aH => ?_;refine al ad ?_;refine aH _ (aK (some ([1,2,4],none)) _ (ae fun cg aP bx b8 => ae fun ch bI dd dU => ai fun cM b0 => ?_));refine ag 1 ad ?_;refine aM 1 ad ?_;refine aM 1 ad ?_;refine Or.inl (Or.inl ⟨_,Hl M a,?_⟩);refine al ad ?_;refine b0 _ (bI (some ([1,2,4,9],none)) _ (bU (ae fun cG bp c5 dn => ai fun cI bE => ?_)));refine ag 2 ad ?_;refine al ad ?_;refine bE _ (bp (some ([4,5],none)) _ (bx _ ?_));refine jr ad ?_
  rfl
def jd (M : c8) (a : Int) : bm := (AG (dV M a)).word
theorem CJ {M : c8} {n : Nat} (bA : gp M n) (a : Int) : (dV M a).length ≤ n := by
 unfold dV
 split
 ·cases e : M.places[a.toNat]? with
  | none => simp
  | some h => exact bA.mZ h (List.mem_of_getElem? e)
 ·simp
theorem aj1 (M : c8) (a : Int) {n : Nat} (bA : gp M n) (a9 : n ≤ 100000) : cq 69 [iZ M,aG a] (.bY [.agg (c6 (jd M a)),eA (decide (fC M a))]) := by
 refine df Tryz.func69 an0 rfl ?_
 have aE := CJ bA a
 unfold bK WQ VF;delta ab aQ aa a3
 refine ae fun _ aK _ _ => ai fun _ aH => ?_;refine cE ?_;refine aH _ (aK (some ([1,2,4],none)) _ (ae fun _ aP _ _ => ai fun _ bk => ?_));refine c4 1 ?_;refine eH 1 ?_;refine eH 1 ?_;refine Or.inl (Or.inl ⟨_,aj0 M a,?_⟩);refine c4 5 ?_;refine cE ?_;refine bk _ (aP (some ([4,6,7],none)) _ (ae fun _ bV _ _ => ai fun _ dk => ?_));refine c4 1 ?_;refine eH 1 ?_;refine Or.inl (Or.inl ⟨_,ajD _ (by omega),?_⟩);refine c4 3 ?_;refine cE ?_;refine dk _ (bV (some ([4,5],none)) _ ?_);refine Eb ?_
 rfl
theorem T2 (M : c8) (t : Int) (v : h5) (aL : hA M t) (bj : M.views.length ≤ 8) : cq 118 [iZ M,aG t,tR v] (iZ (tA M t v)) := by
 refine df Tryz.func118 aoa rfl ?_
 obtain ⟨m,rfl,hm,e,_⟩ := OJ aL
 have bJ : IntKind.i64.wrap ((m : Int) + 1 - 1) = (m : Int) := by rw [IntKind.wrap_i64]; omega
 have cf : (M.views.map yf).take M.views.length = M.views.map yf := by rw [List.take_of_length_le (by simp)]
 have dA : (List.replicate M.views.length [aw.mp 76 fun _ => none]).drop M.views.length = [] := by simp
 have fr : ((m : Int) + 1 - 1).toNat = m := by omega
 unfold bK WW VL;delta ab aQ aa ay
 have ad := And.intro @bJ (And.intro @cf (And.intro @dA @e))
 refine ae fun _ aK _ _ => ai fun _ aH => ?_;refine al ad ?_;refine aH _ (aK (some ([1,3,5,6],none)) _ (ae fun _ aP _ _ => ai fun _ bk => ?_));refine ag 2 ad ?_;refine ag 2 ad ?_;refine al ad ?_;refine bk _ (aP (some ([1,3,5,6,7],none)) _ (ae fun _ bV _ _ => ai fun _ dk => ?_));refine ag 3 ad ?_;refine aS ad ?_;refine dk _ (bV (some ([1,3,5,6,7],none)) _ (ae fun _ cz _ _ => ai fun _ c7 => ?_));refine ag 3 ad ?_;refine ag 1 ad ?_;refine ag 1 ad ?_;refine aS ad ?_;refine c7 _ (cz (some ([3,6,7],none)) _ (ae fun _ cR _ _ => ai fun _ cK => ?_));refine aS ad ?_;refine cK _ (cR (some ([3,6],none)) _ (ae fun _ cr _ _ => ai fun _ cD => ?_));refine ag 1 ad ?_;refine aS ad ?_;refine cD _ (cr (some ([6],none)) _ ?_);refine jr ad ?_
 simp [tA,fr,List.map_set]
end Go.Proofs.YtkmbcjnaaokilaaGreatDoor
