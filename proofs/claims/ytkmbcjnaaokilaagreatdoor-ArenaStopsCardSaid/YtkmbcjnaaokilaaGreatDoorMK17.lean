/-
  Layer 5 by shadows: what the operations keep.
-/
import Derived.Test.YtkmbcjnaaokilaaGreatDoorM5c
import Derived.Test.YtkmbcjnaaokilaaGreatDoorK2
namespace Go.Proofs.YtkmbcjnaaokilaaGreatDoor
set_option linter.unusedSimpArgs false
set_option linter.unusedVariables false
open Go.RowKit Go.Maps
structure sB (L : hk) (n : Nat) : Prop where
 lines : zU L
 asks : Gq L
 mn : ∀ y ∈ L.eQ,y.fI.length ≤ n
theorem OI (l : List bq) (h : l.length ≤ 4096) : sB (ql l) 0 := by
 have aB : ∀ y ∈ (ql l).eQ,y = ⟨[],0⟩ := fun y a1 => by
  simp only [ql,List.mem_replicate] at a1; exact a1.2
 refine ⟨⟨by simp [ql],h,fun y a1 => by rw [aB y a1]; simp,fun n y a1 s ao => ?_⟩,⟨fun t h => absurd rfl h,fun t k m hm => ?_⟩,fun y a1 => by rw [aB y a1]; simp⟩
 ·rw [aB y (List.mem_of_getElem? a1)] at ao; cases ao
 ·simp [iq,ql] at hm
theorem abG {L : hk} {n : Nat} (h : sB L n) (a : Int) (v : bq) (bb : 0 ≤ a) (af : a < (L.first.length : Int)) : sB (rb L a v) (n + 1) := by
 obtain ⟨⟨bE,bP,cK,a4⟩,⟨c4,dm⟩,c⟩ := h
 have gp : ∀ (i : Nat) y,(rb L a v).eQ[i]? = some y → ∃ gP,L.eQ[i]? = some gP ∧ y.kept = gP.kept ∧ ((y = gP) ∨ (i = a.toNat / 8 ∧ y.fI = gP.fI ++ [⟨a,v⟩])) := fun i y a1 => by
  simp only [rb,List.getElem?_modify] at a1
  cases e : L.eQ[i]? with
  | none => rw [e] at a1; simp at a1
  | some gP =>
   rw [e] at a1
   by_cases a8 : a.toNat / 8 = i
   ·simp only [if_pos a8,Option.map_eq_map,Option.map_some,Option.some.injEq] at a1; subst a1; exact ⟨gP,rfl,rfl,.inr ⟨a8.symm,rfl⟩⟩
   ·simp only [if_neg a8,Option.map_eq_map,Option.map_some,Option.some.injEq,id] at a1; subst a1; exact ⟨gP,rfl,rfl,.inl rfl⟩
 have hlen : ∀ (y gP : pL),((y = gP) ∨ y.fI = gP.fI ++ [⟨a,v⟩]) → gP.fI.length ≤ y.fI.length ∧ y.fI.length ≤ gP.fI.length + 1 := fun y gP h => by
  rcases h with rfl | h
  ·omega
  ·rw [h]; simp
 refine ⟨⟨by simp [rb,bE],bP,fun y a1 => ?_,fun i y a1 s ao => ?_⟩,⟨c4,fun t k m hm => ?_⟩,fun y a1 => ?_⟩
 ·obtain ⟨i,aq⟩ := List.mem_iff_getElem?.1 a1
  obtain ⟨gP,a2,a8,cg⟩ := gp i y aq
  have := cK gP (List.mem_of_getElem? a2)
  have := hlen y gP (cg.imp id (·.2))
  omega
 ·obtain ⟨gP,a2,a8,cg⟩ := gp i y a1
  rcases cg with rfl | ⟨rfl,cg⟩
  ·exact a4 i y a2 s ao
  ·rw [cg] at ao
   rcases List.mem_append.1 ao with ao | ao
   ·exact a4 _ gP a2 s ao
   ·simp only [List.mem_singleton] at ao; subst ao
    refine ⟨bb,af,?_⟩
    show a / 8 = _
    omega
 ·obtain ⟨i,gP,rfl,a2,a8,cg⟩ := dm t k m hm
  obtain ⟨y,a1⟩ : ∃ y,(rb L a v).eQ[i]? = some y := ⟨_,List.getElem?_eq_getElem (by simp [rb]; exact (List.getElem?_eq_some_iff.1 a2).1)⟩
  obtain ⟨x4,e7,_,h9⟩ := gp i y a1
  rw [a2] at e7; cases e7
  have := hlen y gP (h9.imp id (·.2))
  exact ⟨i,y,rfl,a1,a8,by omega⟩
 ·obtain ⟨i,aq⟩ := List.mem_iff_getElem?.1 a1
  obtain ⟨gP,a2,a8,cg⟩ := gp i y aq
  have := c gP (List.mem_of_getElem? a2)
  have := hlen y gP (cg.imp id (·.2))
  omega
theorem abt {L : hk} {n : Nat} (h : sB L n) (t a : Int) (aO : 1 ≤ t ∧ t ≤ 8) : sB (sQ L t a) n := by
 unfold sQ
 split
 ·rename_i y a1
  obtain ⟨⟨bE,bP,cK,a4⟩,⟨c4,dm⟩,c⟩ := h
  refine ⟨⟨bE,bP,cK,a4⟩,⟨fun s ao => ?_,fun s k m hm => ?_⟩,c⟩
  ·by_cases e : s = t
   ·subst e; exact aO
   ·simp only [if_neg e] at ao; exact c4 s ao
  ·by_cases e : s = t
   ·subst e
    simp only [iq,if_true,Option.getD_some] at hm
    by_cases a8 : k = ((a.toNat / 8 : Nat) : Int)
    ·rw [if_pos a8] at hm; cases hm
     exact ⟨_,y,a8,a1,by omega,by omega⟩
    ·rw [if_neg a8] at hm; exact dm s k m hm
   ·simp only [iq,if_neg e] at hm; exact dm s k m hm
 ·exact h
theorem abH {L : hk} {n : Nat} (h : sB L n) (t : Int) : sB (oq L t) n := by
 obtain ⟨⟨bE,bP,cK,a4⟩,⟨c4,dm⟩,c⟩ := h
 have gp : ∀ (i : Nat) y,(oq L t).eQ[i]? = some y → ∃ gP,L.eQ[i]? = some gP ∧ y.fI = gP.fI ∧ 0 ≤ y.kept ∧ y.kept ≤ (y.fI.length : Int) := fun i y a1 => by
  simp only [oq,List.getElem?_mapIdx] at a1
  cases e : L.eQ[i]? with
  | none => rw [e] at a1; simp at a1
  | some gP =>
   rw [e] at a1
   simp only [Option.map_some,Option.some.injEq] at a1
   have aw := cK gP (List.mem_of_getElem? e)
   unfold qt at a1
   split at a1
   ·rename_i m hm
    obtain ⟨jn,x4,a2,a8,cg,e7⟩ := dm t i m hm
    have : i = jn := by omega
    subst this
    rw [e] at a8; cases a8
    subst a1
    refine ⟨gP,rfl,rfl,?_,?_⟩
    ·show 0 ≤ max gP.kept m
     omega
    ·show max gP.kept m ≤ _
     simp only
     omega
   ·subst a1; exact ⟨gP,rfl,rfl,aw.1,aw.2⟩
 refine ⟨⟨by simp [oq,bE],bP,fun y a1 => ?_,fun i y a1 s ao => ?_⟩,⟨fun s ao => ?_,fun s k m hm => ?_⟩,fun y a1 => ?_⟩
 ·obtain ⟨i,aq⟩ := List.mem_iff_getElem?.1 a1
  obtain ⟨gP,_,_,e⟩ := gp i y aq
  exact e
 ·obtain ⟨gP,a2,a8,_⟩ := gp i y a1
  rw [a8] at ao; exact a4 i gP a2 s ao
 ·by_cases e : s = t
  ·simp [oq,e] at ao
  ·simp only [oq,if_neg e] at ao; exact c4 s ao
 ·by_cases e : s = t
  ·simp [iq,oq,e] at hm
  ·have sV : iq L s k = some m := by simpa [iq,oq,e] using hm
   obtain ⟨i,gP,rfl,a2,a8,cg⟩ := dm s k m sV
   obtain ⟨y,a1⟩ : ∃ y,(oq L t).eQ[i]? = some y := ⟨_,List.getElem?_eq_getElem (by simp [oq]; exact (List.getElem?_eq_some_iff.1 a2).1)⟩
   obtain ⟨x4,e7,h9,_⟩ := gp i y a1
   rw [a2] at e7; cases e7
   exact ⟨i,y,rfl,a1,a8,by rw [h9]; exact cg⟩
 ·obtain ⟨i,aq⟩ := List.mem_iff_getElem?.1 a1
  obtain ⟨gP,a2,a8,_⟩ := gp i y aq
  rw [a8]; exact c gP (List.mem_of_getElem? a2)
structure jP where
 word : bq
 iC : Int
 view : hS
abbrev Am (m : jP) : List av := [aI m.word.val,fX m.word.eZ,fX m.word.ref,aI m.iC,DG m.view]
abbrev rA (h : List jP) : List av := [.au 5 0 (h.map Am)]
abbrev rz (h : List jP) : av := .agg (rA h)
def gv : bq := ⟨0,0,0⟩
def Gi : jP := ⟨⟨0,0,0⟩,0,fun _ => none⟩
def kQ (h : List jP) (i : Int) : jP := if 0 ≤ i then (h[i.toNat]?).getD Gi else Gi
def yX (h : List jP) : jP := kQ h ((h.length : Int) - 1)
def sJ (n : Nat) (f c : Int) : Int := if n = 0 then -1 else ((n : Int) - 1) - (max c 0) % ((n : Int) - 1 - (max 0 (min f ((n : Int) - 1))) + 1)
theorem Nm {n : Nat} (h : 0 < n) (f c : Int) : max 0 (min f ((n : Int) - 1)) ≤ sJ n f c ∧ sJ n f c ≤ (n : Int) - 1 := by
 unfold sJ
 rw [if_neg (by omega)]
 have af := Int.emod_nonneg (max c 0) (show (n : Int) - 1 - (max 0 (min f ((n : Int) - 1))) + 1 ≠ 0 by omega)
 have aj := Int.emod_lt_of_pos (max c 0) (show 0 < (n : Int) - 1 - (max 0 (min f ((n : Int) - 1))) + 1 by omega)
 omega
theorem af7 (w : bq) : cu 81 [.agg (dj w)] (rz [⟨w,0,fun _ => none⟩]) := by
 refine df Tryz.func81 ajy rfl ?_
 unfold bJ S1 RU;delta ab aR aa
 refine ae fun _ aK _ _ => ai fun _ aG => ?_;refine cz ?_;refine aG _ (aK (some ([1,2],none)) _ (ae fun _ aQ _ _ => ai fun _ bh => ?_));refine cV 1 ?_;refine cV 2 ?_;refine mW ?_;refine bh _ (aQ (some ([2],none)) _ ?_);refine Ct ?_
 rfl
theorem Fg (h : List jP) : cu 116 [rz h] (aI h.length) := by
 refine df Tryz.func116 ajx rfl ?_
 unfold bJ SZ RT;delta ab aa aA
 refine ae fun _ aK _ _ => ai fun _ aG => ?_;refine cz ?_;refine aG _ (aK (some ([1],none)) _ (ae fun _ aQ _ _ => ai fun _ bh => ?_));refine cV 2 ?_;refine cz ?_;refine bh _ (aQ (some ([2],none)) _ ?_)
 exact jb
theorem QP (h : List jP) (i : Int) : cu 96 [rz h,aI i] (.bR [.agg (Am (kQ h i)),dH (decide (0 ≤ i ∧ i < (h.length : Int)))]) := by
 refine df Tryz.func96 aju rfl ?_
 by_cases af : i < 0
 ·have e : kQ h i = Gi := if_neg (by omega)
  have d : decide (0 ≤ i ∧ i < (h.length : Int)) = false := decide_eq_false (by omega)
  rw [e,d]
  unfold bJ FU FJ;delta ab aR a9 aa aA a6
  have ad := @af
  refine ae fun bz aK b6 cb => ai fun b7 aG => ?_;refine an ad ?_;refine aG _ (aK (some ([1,2,4],none)) _ (ae fun b8 aQ bt b5 => ae fun b9 bG c7 dF => ai fun cD bZ => ?_));refine ag 2 ad ?_;refine ag 4 ad ?_;refine ag 2 ad ?_;refine an ad ?_;refine bZ _ (bG (some ([1,2,4,14],none)) _ (bY (ae fun cv bp cY dk => ai fun cC bD => ?_)));refine ag 2 ad ?_;refine an ad ?_;refine bD _ (bp (some ([4,5],none)) _ (bt _ ?_));refine jc ad ?_
  rfl
 obtain ⟨m,rfl⟩ := Int.eq_ofNat_of_zero_le (show 0 ≤ i by omega)
 by_cases aj : (h.length : Int) ≤ (m : Int)
 ·have e : kQ h m = Gi := by
   unfold kQ; rw [if_pos (by omega),Int.toNat_natCast,List.getElem?_eq_none (by omega)]; rfl
  have d : decide (0 ≤ (m : Int) ∧ (m : Int) < (h.length : Int)) = false := decide_eq_false (by omega)
  rw [e,d]
  unfold bJ FU FJ;delta ab aR a9 aa aA a6
  have ad := And.intro @af @aj
  refine ae fun bz aK b6 cb => ai fun b7 aG => ?_;refine an ad ?_;refine aG _ (aK (some ([1,2,4],none)) _ (ae fun b8 aQ bt b5 => ae fun b9 bG c7 dF => ai fun cD bZ => ?_));refine ag 2 ad ?_;refine ag 4 ad ?_;refine ag 2 ad ?_;refine an ad ?_;refine bZ _ (bG (some ([1,2,4,14],none)) _ (bY (ae fun cv bp cY dk => ai fun cC bD => ?_)));refine ag 2 ad ?_;refine an ad ?_;refine bD _ (bp (some ([4,5],none)) _ (bt _ ?_));refine jc ad ?_
  rfl
 obtain ⟨x,xo⟩ : ∃ x,h[m]? = some x := ⟨_,List.getElem?_eq_getElem (by omega)⟩
 have e : kQ h m = x := by
  unfold kQ; rw [if_pos (by omega),Int.toNat_natCast,xo]; rfl
 have d : decide (0 ≤ (m : Int) ∧ (m : Int) < (h.length : Int)) = true := decide_eq_true (by omega)
 rw [e,d]
 unfold bJ FU FJ;delta ab aR a9 aa aA a6
 have ad := And.intro @af (And.intro @aj @xo)
 refine ae fun bz aK b6 cb => ai fun b7 aG => ?_;refine an ad ?_;refine aG _ (aK (some ([1,2,4],none)) _ (ae fun b8 aQ bt b5 => ae fun b9 bG c7 dF => ai fun cD bZ => ?_));refine ag 2 ad ?_;refine ag 4 ad ?_;refine ag 2 ad ?_;refine an ad ?_;refine bZ _ (bG (some ([1,2,4,14],none)) _ (bB (aQ (some ([1,2,4],none)) _ (ae fun cv bp cY dk => ai fun cC bD => ?_))));refine ag 2 ad ?_;refine ag 2 ad ?_;refine ag 1 ad ?_;refine ag 1 ad ?_;refine an ad ?_;refine bD _ (bp (some ([4,5],none)) _ ?_)
 exact cO ad
theorem af6 (h : List jP) (a7 : h.length ≤ 100000) : cu 84 [rz h] (.agg (Am (yX h))) := by
 have bL : IntKind.i64.wrap ((h.length : Int) - 1) = (h.length : Int) - 1 := by rw [IntKind.wrap_i64]; omega
 have az := QP h ((h.length : Int) - 1)
 unfold yX
 generalize kQ h ((h.length : Int) - 1) = x at az ⊢
 refine df Tryz.func84 ajw rfl ?_
 unfold bJ SY RS;delta ab aR aa aA
 have ad := @bL
 refine ae fun _ aK _ _ => ai fun _ aG => ?_;refine an ad ?_;refine aG _ (aK (some ([1,2],none)) _ (ae fun _ aQ _ _ => ai fun _ bh => ?_));refine ag 1 ad ?_;refine ag 2 ad ?_;refine ag 2 ad ?_;refine aL 1 ad ?_;refine Or.inl (Or.inl ⟨_,az,?_⟩);refine ag 5 ad ?_;refine an ad ?_;refine bh _ (aQ (some ([2,3],none)) _ (ae fun _ bT _ _ => ai fun _ de => ?_));refine ag 1 ad ?_;refine aU ad ?_;refine de _ (bT (some ([2],none)) _ ?_)
 exact cO ad
theorem af2 (g : Nat) (es : List (List av)) : cu 124 [.au 5 g es] (.au 5 1 es) := by
 refine df Tryz.func124 ajq rfl ?_
 unfold bJ SU RO;delta ab aa
 refine ae fun _ aK _ _ => ai fun _ aG => ?_;refine cz ?_;refine aG _ (aK (some ([0],none)) _ (ae fun _ aQ _ _ => ai fun _ bh => ?_));refine cV 6 ?_;refine cz ?_;refine bh _ (aQ (some ([2],none)) _ ?_)
 exact jb
theorem QO (h : List jP) (m : jP) (a7 : h.length ≤ 100000) : cu 117 [rz h,.agg (Am m)] (rz (h ++ [m])) := by
 refine df Tryz.func117 ajt rfl ?_
 unfold bJ SX RR;delta ab aR aa
 refine ae fun _ aK _ _ => ai fun _ aG => ?_;refine cz ?_;refine aG _ (aK (some ([2,3,4],none)) _ (ae fun _ aQ _ _ => ?_));refine hy [] (n := 5) fun _ bh => ?_;refine hv ?_;refine DP 2 ?_;refine aaJ 1 ?_;refine ⟨_,af2 0 _,?_⟩;refine DP 1 ?_;refine aaK ?_;refine bh _ ?_;refine hx ?_;refine cV 1 ?_;refine mW ?_;refine aQ (some ([4],none)) _ ?_;refine Ct ?_
 simp
theorem af5 (h : List jP) (f c : Int) (a7 : h.length ≤ 100000) : cu 122 [rz h,aI f,aI c] (aI (sJ h.length f c)) := by
 refine df Tryz.func122 ajv rfl ?_
 have bL : IntKind.i64.wrap ((h.length : Int) - 1) = (h.length : Int) - 1 := by rw [IntKind.wrap_i64]; omega
 by_cases bb : h.length = 0
 ·have e : sJ h.length f c = -1 := if_pos bb
  rw [e]
  have d : (h.length : Int) - 1 < 0 := by omega
  unfold bJ Lp KX;delta ab aa aA
  have ad := And.intro @bL @d
  refine ae fun bz aK b6 cb => ai fun b7 aG => ?_;refine an ad ?_;refine aG _ (aK (some ([1,2,3],none)) _ (ae fun b8 aQ bt b5 => ai fun b9 bh => ?_));refine ag 2 ad ?_;refine ag 2 ad ?_;refine an ad ?_;refine bh _ (aQ (some ([1,2,7],none)) _ (ae fun cD bT dG eG => ae fun cv bp cY dk => ai fun cC bD => ?_));refine aU ad ?_;refine bD _ (bp (some ([1,2,7,13],none)) _ (bY (ae fun dy ck gV gA => ai fun bo aP => ?_)));refine an ad ?_;refine aP _ (ck (some ([6],none)) _ (dG _ ?_))
  exact cO ad
 have d : ¬ (h.length : Int) - 1 < 0 := by omega
 have e : sJ h.length f c = ((h.length : Int) - 1) - (max c 0) % ((h.length : Int) - 1 - (max 0 (min f ((h.length : Int) - 1))) + 1) := if_neg bb
 have cd : IntKind.i64.wrap ((h.length : Int) - 1 - (max 0 (min f ((h.length : Int) - 1)))) = (h.length : Int) - 1 - (max 0 (min f ((h.length : Int) - 1))) := by rw [IntKind.wrap_i64]; omega
 have dV : IntKind.i64.wrap ((h.length : Int) - 1 - (max 0 (min f ((h.length : Int) - 1))) + 1) = (h.length : Int) - 1 - (max 0 (min f ((h.length : Int) - 1))) + 1 := by rw [IntKind.wrap_i64]; omega
 have fW : ¬ (h.length : Int) - 1 - (max 0 (min f ((h.length : Int) - 1))) + 1 = 0 := by omega
 have ja : (max c 0).tmod ((h.length : Int) - 1 - (max 0 (min f ((h.length : Int) - 1))) + 1) = (max c 0) % ((h.length : Int) - 1 - (max 0 (min f ((h.length : Int) - 1))) + 1) := Int.tmod_eq_emod_of_nonneg (by omega)
 have b := Nm (n := h.length) (by omega) f c
 rw [e] at b
 have lu : IntKind.i64.wrap (((h.length : Int) - 1) - (max c 0) % ((h.length : Int) - 1 - (max 0 (min f ((h.length : Int) - 1))) + 1)) = ((h.length : Int) - 1) - (max c 0) % ((h.length : Int) - 1 - (max 0 (min f ((h.length : Int) - 1))) + 1) := by rw [IntKind.wrap_i64]; omega
 rw [e]
 unfold bJ Lp KX;delta ab aa aA
 have ad := And.intro @bL (And.intro @d (And.intro @cd (And.intro @dV (And.intro @fW (And.intro @ja @lu)))))
 refine ae fun bz aK b6 cb => ai fun b7 aG => ?_;refine an ad ?_;refine aG _ (aK (some ([1,2,3],none)) _ (ae fun b8 aQ bt b5 => ai fun b9 bh => ?_));refine ag 2 ad ?_;refine ag 2 ad ?_;refine an ad ?_;refine bh _ (aQ (some ([1,2,7],none)) _ (ae fun cD bT dG eG => ae fun cv bp cY dk => ai fun cC bD => ?_));refine aU ad ?_;refine bD _ (bp (some ([1,2,7,13],none)) _ (bB (bT (some ([1,2,7],none)) _ (ae fun dy ck gV gA => ai fun bo aP => ?_))));refine an ad ?_;refine aP _ (ck (some ([1,2,7],none)) _ (ae fun _ ee _ _ => ai fun _ eU => ?_));refine ag 6 ad ?_;refine ag 1 ad ?_;refine ag 1 ad ?_;refine ag 1 ad ?_;refine an ad ?_;refine eU _ (ee (some ([6],none)) _ ?_)
 exact cO ad
theorem agF (h : List jP) (f c : Int) (a7 : h.length ≤ 100000) : cu 113 [aI c,rz h,aI f] (aI (sJ h.length f c)) := by
 refine df Tryz.func113 akw rfl ?_
 unfold bJ TH Sz;delta ab aa aA
 refine ae fun _ aK _ _ => ai fun _ aG => ?_;refine cz ?_;refine aG _ (aK (some ([0,2,4],none)) _ (ae fun _ aQ _ _ => ai fun _ bh => ?_));refine cV 1 ?_;refine eu 2 ?_;refine eu 1 ?_;refine Or.inl (Or.inl ⟨_,af5 h f c a7,?_⟩);refine cz ?_;refine bh _ (aQ (some ([6],none)) _ ?_)
 exact jb
theorem agE (h : List jP) (f c : Int) (a7 : h.length ≤ 100000) : cu 112 [aI c,rz h,aI f] (aI ((h.length : Int) - 1)) := by
 have bL : IntKind.i64.wrap ((h.length : Int) - 1) = (h.length : Int) - 1 := by rw [IntKind.wrap_i64]; omega
 refine df Tryz.func112 akv rfl ?_
 unfold bJ TG Sy;delta ab aa aA
 have ad := @bL
 refine ae fun _ aK _ _ => ai fun _ aG => ?_;refine an ad ?_;refine aG _ (aK (some ([4],none)) _ (ae fun _ aQ _ _ => ai fun _ bh => ?_));refine ag 1 ad ?_;refine aL 1 ad ?_;refine Or.inl (Or.inl ⟨_,Fg h,?_⟩);refine ag 1 ad ?_;refine an ad ?_;refine bh _ (aQ (some ([6],none)) _ ?_)
 exact cO ad
end Go.Proofs.YtkmbcjnaaokilaaGreatDoor
