/-
  Layer 5 by shadows: what the operations keep.
-/
import Derived.Test.YtkmbcjnaaokilaaGreatDoorM5c
import Derived.Test.YtkmbcjnaaokilaaGreatDoorK2
namespace Go.Proofs.YtkmbcjnaaokilaaGreatDoor
set_option linter.unusedSimpArgs false
set_option linter.unusedVariables false
open Go.RowKit Go.Maps
structure tD (L : hz) (n : Nat) : Prop where
 lines : Bo L
 asks : Ir L
 mZ : ∀ y ∈ L.eX,y.fU.length ≤ n
theorem Rw (l : List bm) (h : l.length ≤ 4096) : tD (rq l) 0 := by
 have az : ∀ y ∈ (rq l).eX,y = ⟨[],0⟩ := fun y aV => by
  simp only [rq,List.mem_replicate] at aV; exact aV.2
 refine ⟨⟨by simp [rq],h,fun y aV => by rw [az y aV]; simp,fun n y aV s ao => ?_⟩,⟨fun t h => absurd rfl h,fun t k m hm => ?_⟩,fun y aV => by rw [az y aV]; simp⟩
 ·rw [az y (List.mem_of_getElem? aV)] at ao; cases ao
 ·simp [iH,rq] at hm
theorem ae6 {L : hz} {n : Nat} (h : tD L n) (a : Int) (v : bm) (ba : 0 ≤ a) (af : a < (L.first.length : Int)) : tD (sk L a v) (n + 1) := by
 obtain ⟨⟨bS,bH,bP,a4⟩,⟨dh,dv⟩,c⟩ := h
 have gB : ∀ (i : Nat) y,(sk L a v).eX[i]? = some y → ∃ gU,L.eX[i]? = some gU ∧ y.kept = gU.kept ∧ ((y = gU) ∨ (i = a.toNat / 8 ∧ y.fU = gU.fU ++ [⟨a,v⟩])) := fun i y aV => by
  simp only [sk,List.getElem?_modify] at aV
  cases e : L.eX[i]? with
  | none => rw [e] at aV; simp at aV
  | some gU =>
   rw [e] at aV
   by_cases a7 : a.toNat / 8 = i
   ·simp only [if_pos a7,Option.map_eq_map,Option.map_some,Option.some.injEq] at aV; subst aV; exact ⟨gU,rfl,rfl,.inr ⟨a7.symm,rfl⟩⟩
   ·simp only [if_neg a7,Option.map_eq_map,Option.map_some,Option.some.injEq,id] at aV; subst aV; exact ⟨gU,rfl,rfl,.inl rfl⟩
 have hlen : ∀ (y gU : qN),((y = gU) ∨ y.fU = gU.fU ++ [⟨a,v⟩]) → gU.fU.length ≤ y.fU.length ∧ y.fU.length ≤ gU.fU.length + 1 := fun y gU h => by
  rcases h with rfl | h
  ·omega
  ·rw [h]; simp
 refine ⟨⟨by simp [sk,bS],bH,fun y aV => ?_,fun i y aV s ao => ?_⟩,⟨dh,fun t k m hm => ?_⟩,fun y aV => ?_⟩
 ·obtain ⟨i,aq⟩ := List.mem_iff_getElem?.1 aV
  obtain ⟨gU,a1,a7,ct⟩ := gB i y aq
  have := bP gU (List.mem_of_getElem? a1)
  have := hlen y gU (ct.imp id (·.2))
  omega
 ·obtain ⟨gU,a1,a7,ct⟩ := gB i y aV
  rcases ct with rfl | ⟨rfl,ct⟩
  ·exact a4 i y a1 s ao
  ·rw [ct] at ao
   rcases List.mem_append.1 ao with ao | ao
   ·exact a4 _ gU a1 s ao
   ·simp only [List.mem_singleton] at ao; subst ao
    refine ⟨ba,af,?_⟩
    show a / 8 = _
    omega
 ·obtain ⟨i,gU,rfl,a1,a7,ct⟩ := dv t k m hm
  obtain ⟨y,aV⟩ : ∃ y,(sk L a v).eX[i]? = some y := ⟨_,List.getElem?_eq_getElem (by simp [sk]; exact (List.getElem?_eq_some_iff.1 a1).1)⟩
  obtain ⟨xT,fb,_,iA⟩ := gB i y aV
  rw [a1] at fb; cases fb
  have := hlen y gU (iA.imp id (·.2))
  exact ⟨i,y,rfl,aV,a7,by omega⟩
 ·obtain ⟨i,aq⟩ := List.mem_iff_getElem?.1 aV
  obtain ⟨gU,a1,a7,ct⟩ := gB i y aq
  have := c gU (List.mem_of_getElem? a1)
  have := hlen y gU (ct.imp id (·.2))
  omega
theorem aeT {L : hz} {n : Nat} (h : tD L n) (t a : Int) (aL : 1 ≤ t ∧ t ≤ 8) : tD (tT L t a) n := by
 unfold tT
 split
 ·rename_i y aV
  obtain ⟨⟨bS,bH,bP,a4⟩,⟨dh,dv⟩,c⟩ := h
  refine ⟨⟨bS,bH,bP,a4⟩,⟨fun s ao => ?_,fun s k m hm => ?_⟩,c⟩
  ·by_cases e : s = t
   ·subst e; exact aL
   ·simp only [if_neg e] at ao; exact dh s ao
  ·by_cases e : s = t
   ·subst e
    simp only [iH,if_true,Option.getD_some] at hm
    by_cases a7 : k = ((a.toNat / 8 : Nat) : Int)
    ·rw [if_pos a7] at hm; cases hm
     exact ⟨_,y,a7,aV,by omega,by omega⟩
    ·rw [if_neg a7] at hm; exact dv s k m hm
   ·simp only [iH,if_neg e] at hm; exact dv s k m hm
 ·exact h
theorem ae7 {L : hz} {n : Nat} (h : tD L n) (t : Int) : tD (pe L t) n := by
 obtain ⟨⟨bS,bH,bP,a4⟩,⟨dh,dv⟩,c⟩ := h
 have gB : ∀ (i : Nat) y,(pe L t).eX[i]? = some y → ∃ gU,L.eX[i]? = some gU ∧ y.fU = gU.fU ∧ 0 ≤ y.kept ∧ y.kept ≤ (y.fU.length : Int) := fun i y aV => by
  simp only [pe,List.getElem?_mapIdx] at aV
  cases e : L.eX[i]? with
  | none => rw [e] at aV; simp at aV
  | some gU =>
   rw [e] at aV
   simp only [Option.map_some,Option.some.injEq] at aV
   have av := bP gU (List.mem_of_getElem? e)
   unfold rz at aV
   split at aV
   ·rename_i m hm
    obtain ⟨jC,xT,a1,a7,ct,fb⟩ := dv t i m hm
    have : i = jC := by omega
    subst this
    rw [e] at a7; cases a7
    subst aV
    refine ⟨gU,rfl,rfl,?_,?_⟩
    ·show 0 ≤ max gU.kept m
     omega
    ·show max gU.kept m ≤ _
     simp only
     omega
   ·subst aV; exact ⟨gU,rfl,rfl,av.1,av.2⟩
 refine ⟨⟨by simp [pe,bS],bH,fun y aV => ?_,fun i y aV s ao => ?_⟩,⟨fun s ao => ?_,fun s k m hm => ?_⟩,fun y aV => ?_⟩
 ·obtain ⟨i,aq⟩ := List.mem_iff_getElem?.1 aV
  obtain ⟨gU,_,_,e⟩ := gB i y aq
  exact e
 ·obtain ⟨gU,a1,a7,_⟩ := gB i y aV
  rw [a7] at ao; exact a4 i gU a1 s ao
 ·by_cases e : s = t
  ·simp [pe,e] at ao
  ·simp only [pe,if_neg e] at ao; exact dh s ao
 ·by_cases e : s = t
  ·simp [iH,pe,e] at hm
  ·have ua : iH L s k = some m := by simpa [iH,pe,e] using hm
   obtain ⟨i,gU,rfl,a1,a7,ct⟩ := dv s k m ua
   obtain ⟨y,aV⟩ : ∃ y,(pe L t).eX[i]? = some y := ⟨_,List.getElem?_eq_getElem (by simp [pe]; exact (List.getElem?_eq_some_iff.1 a1).1)⟩
   obtain ⟨xT,fb,iA,_⟩ := gB i y aV
   rw [a1] at fb; cases fb
   exact ⟨i,y,rfl,aV,a7,by rw [iA]; exact ct⟩
 ·obtain ⟨i,aq⟩ := List.mem_iff_getElem?.1 aV
  obtain ⟨gU,a1,a7,_⟩ := gB i y aq
  rw [a7]; exact c gU (List.mem_of_getElem? a1)
structure j5 where
 word : bm
 jv : Int
 view : h5
abbrev BW (m : j5) : List aw := [aG m.word.val,gk m.word.eV,gk m.word.ref,aG m.jv,FE m.view]
abbrev sJ (h : List j5) : List aw := [.au 5 0 (h.map BW)]
abbrev sI (h : List j5) : aw := .agg (sJ h)
def gE : bm := ⟨0,0,0⟩
def Ig : j5 := ⟨⟨0,0,0⟩,0,fun _ => none⟩
def lb (h : List j5) (i : Int) : j5 := if 0 ≤ i then (h[i.toNat]?).getD Ig else Ig
def AG (h : List j5) : j5 := lb h ((h.length : Int) - 1)
def tO (n : Nat) (f c : Int) : Int := if n = 0 then -1 else ((n : Int) - 1) - (max c 0) % ((n : Int) - 1 - (max 0 (min f ((n : Int) - 1))) + 1)
theorem Qa {n : Nat} (h : 0 < n) (f c : Int) : max 0 (min f ((n : Int) - 1)) ≤ tO n f c ∧ tO n f c ≤ (n : Int) - 1 := by
 unfold tO
 rw [if_neg (by omega)]
 have af := Int.emod_nonneg (max c 0) (show (n : Int) - 1 - (max 0 (min f ((n : Int) - 1))) + 1 ≠ 0 by omega)
 have aj := Int.emod_lt_of_pos (max c 0) (show 0 < (n : Int) - 1 - (max 0 (min f ((n : Int) - 1))) + 1 by omega)
 omega
theorem ajE (w : bm) : cq 81 [.agg (c6 w)] (sI [⟨w,0,fun _ => none⟩]) := by
 refine df Tryz.func81 anb rfl ?_
 unfold bK We U6;delta ab aQ aa
 refine ae fun _ aK _ _ => ai fun _ aH => ?_;refine cE ?_;refine aH _ (aK (some ([1,2],none)) _ (ae fun _ aP _ _ => ai fun _ bk => ?_));refine c4 1 ?_;refine c4 2 ?_;refine nF ?_;refine bk _ (aP (some ([2],none)) _ ?_);refine Eb ?_
 rfl
theorem Hi (h : List j5) : cq 116 [sI h] (aG h.length) := by
 refine df Tryz.func116 ana rfl ?_
 unfold bK Wd U5;delta ab aa ay
 refine ae fun _ aK _ _ => ai fun _ aH => ?_;refine cE ?_;refine aH _ (aK (some ([1],none)) _ (ae fun _ aP _ _ => ai fun _ bk => ?_));refine c4 2 ?_;refine cE ?_;refine bk _ (aP (some ([2],none)) _ ?_)
 exact jq
theorem TP (h : List j5) (i : Int) : cq 96 [sI h,aG i] (.bY [.agg (BW (lb h i)),eA (decide (0 ≤ i ∧ i < (h.length : Int)))]) := by
 refine df Tryz.func96 am7 rfl ?_
 by_cases af : i < 0
 ·have e : lb h i = Ig := if_neg (by omega)
  have d : decide (0 ≤ i ∧ i < (h.length : Int)) = false := decide_eq_false (by omega)
  rw [e,d]
  unfold bK HR HG;delta ab aQ a8 aa ay a3
  have ad := @af
  refine ae fun bD aK b9 ck => ai fun ca aH => ?_;refine al ad ?_;refine aH _ (aK (some ([1,2,4],none)) _ (ae fun cg aP bx b8 => ae fun ch bI dd dU => ai fun cM b0 => ?_));refine ag 2 ad ?_;refine ag 4 ad ?_;refine ag 2 ad ?_;refine al ad ?_;refine b0 _ (bI (some ([1,2,4,14],none)) _ (bU (ae fun cG bp c5 dn => ai fun cI bE => ?_)));refine ag 2 ad ?_;refine al ad ?_;refine bE _ (bp (some ([4,5],none)) _ (bx _ ?_));refine jr ad ?_
  rfl
 obtain ⟨m,rfl⟩ := Int.eq_ofNat_of_zero_le (show 0 ≤ i by omega)
 by_cases aj : (h.length : Int) ≤ (m : Int)
 ·have e : lb h m = Ig := by
   unfold lb; rw [if_pos (by omega),Int.toNat_natCast,List.getElem?_eq_none (by omega)]; rfl
  have d : decide (0 ≤ (m : Int) ∧ (m : Int) < (h.length : Int)) = false := decide_eq_false (by omega)
  rw [e,d]
  unfold bK HR HG;delta ab aQ a8 aa ay a3
  have ad := And.intro @af @aj
  refine ae fun bD aK b9 ck => ai fun ca aH => ?_;refine al ad ?_;refine aH _ (aK (some ([1,2,4],none)) _ (ae fun cg aP bx b8 => ae fun ch bI dd dU => ai fun cM b0 => ?_));refine ag 2 ad ?_;refine ag 4 ad ?_;refine ag 2 ad ?_;refine al ad ?_;refine b0 _ (bI (some ([1,2,4,14],none)) _ (bU (ae fun cG bp c5 dn => ai fun cI bE => ?_)));refine ag 2 ad ?_;refine al ad ?_;refine bE _ (bp (some ([4,5],none)) _ (bx _ ?_));refine jr ad ?_
  rfl
 obtain ⟨x,y2⟩ : ∃ x,h[m]? = some x := ⟨_,List.getElem?_eq_getElem (by omega)⟩
 have e : lb h m = x := by
  unfold lb; rw [if_pos (by omega),Int.toNat_natCast,y2]; rfl
 have d : decide (0 ≤ (m : Int) ∧ (m : Int) < (h.length : Int)) = true := decide_eq_true (by omega)
 rw [e,d]
 unfold bK HR HG;delta ab aQ a8 aa ay a3
 have ad := And.intro @af (And.intro @aj @y2)
 refine ae fun bD aK b9 ck => ai fun ca aH => ?_;refine al ad ?_;refine aH _ (aK (some ([1,2,4],none)) _ (ae fun cg aP bx b8 => ae fun ch bI dd dU => ai fun cM b0 => ?_));refine ag 2 ad ?_;refine ag 4 ad ?_;refine ag 2 ad ?_;refine al ad ?_;refine b0 _ (bI (some ([1,2,4,14],none)) _ (bs (aP (some ([1,2,4],none)) _ (ae fun cG bp c5 dn => ai fun cI bE => ?_))));refine ag 2 ad ?_;refine ag 2 ad ?_;refine ag 1 ad ?_;refine ag 1 ad ?_;refine al ad ?_;refine bE _ (bp (some ([4,5],none)) _ ?_)
 exact cQ ad
theorem ajD (h : List j5) (a9 : h.length ≤ 100000) : cq 84 [sI h] (.agg (BW (AG h))) := by
 have bJ : IntKind.i64.wrap ((h.length : Int) - 1) = (h.length : Int) - 1 := by rw [IntKind.wrap_i64]; omega
 have aB := TP h ((h.length : Int) - 1)
 unfold AG
 generalize lb h ((h.length : Int) - 1) = x at aB ⊢
 refine df Tryz.func84 am9 rfl ?_
 unfold bK Wc U4;delta ab aQ aa ay
 have ad := @bJ
 refine ae fun _ aK _ _ => ai fun _ aH => ?_;refine al ad ?_;refine aH _ (aK (some ([1,2],none)) _ (ae fun _ aP _ _ => ai fun _ bk => ?_));refine ag 1 ad ?_;refine ag 2 ad ?_;refine ag 2 ad ?_;refine aM 1 ad ?_;refine Or.inl (Or.inl ⟨_,aB,?_⟩);refine ag 5 ad ?_;refine al ad ?_;refine bk _ (aP (some ([2,3],none)) _ (ae fun _ bV _ _ => ai fun _ dk => ?_));refine ag 1 ad ?_;refine aS ad ?_;refine dk _ (bV (some ([2],none)) _ ?_)
 exact cQ ad
theorem ajz (g : Nat) (es : List (List aw)) : cq 124 [.au 5 g es] (.au 5 1 es) := by
 refine df Tryz.func124 am3 rfl ?_
 unfold bK V8 U0;delta ab aa
 refine ae fun _ aK _ _ => ai fun _ aH => ?_;refine cE ?_;refine aH _ (aK (some ([0],none)) _ (ae fun _ aP _ _ => ai fun _ bk => ?_));refine c4 6 ?_;refine cE ?_;refine bk _ (aP (some ([2],none)) _ ?_)
 exact jq
theorem TO (h : List j5) (m : j5) (a9 : h.length ≤ 100000) : cq 117 [sI h,.agg (BW m)] (sI (h ++ [m])) := by
 refine df Tryz.func117 am6 rfl ?_
 unfold bK Wb U3;delta ab aQ aa
 refine ae fun _ aK _ _ => ai fun _ aH => ?_;refine cE ?_;refine aH _ (aK (some ([2,3,4],none)) _ (ae fun _ aP _ _ => ?_));refine gh [] (n := 5) fun _ bk => ?_;refine gY ?_;refine FP 2 ?_;refine aea 1 ?_;refine ⟨_,ajz 0 _,?_⟩;refine FP 1 ?_;refine aeb ?_;refine bk _ ?_;refine gZ ?_;refine c4 1 ?_;refine nF ?_;refine aP (some ([4],none)) _ ?_;refine Eb ?_
 simp
theorem ajC (h : List j5) (f c : Int) (a9 : h.length ≤ 100000) : cq 122 [sI h,aG f,aG c] (aG (tO h.length f c)) := by
 refine df Tryz.func122 am8 rfl ?_
 have bJ : IntKind.i64.wrap ((h.length : Int) - 1) = (h.length : Int) - 1 := by rw [IntKind.wrap_i64]; omega
 by_cases ba : h.length = 0
 ·have e : tO h.length f c = -1 := if_pos ba
  rw [e]
  have d : (h.length : Int) - 1 < 0 := by omega
  unfold bK N3 Nz;delta ab aa ay
  have ad := And.intro @bJ @d
  refine ae fun bD aK b9 ck => ai fun ca aH => ?_;refine al ad ?_;refine aH _ (aK (some ([1,2,3],none)) _ (ae fun cg aP bx b8 => ai fun ch bk => ?_));refine ag 2 ad ?_;refine ag 2 ad ?_;refine al ad ?_;refine bk _ (aP (some ([1,2,7],none)) _ (ae fun cM bV dQ eP => ae fun cG bp c5 dn => ai fun cI bE => ?_));refine aS ad ?_;refine bE _ (bp (some ([1,2,7,13],none)) _ (bU (ae fun dB cv g7 gw => ai fun bz aR => ?_)));refine al ad ?_;refine aR _ (cv (some ([6],none)) _ (dQ _ ?_))
  exact cQ ad
 have d : ¬ (h.length : Int) - 1 < 0 := by omega
 have e : tO h.length f c = ((h.length : Int) - 1) - (max c 0) % ((h.length : Int) - 1 - (max 0 (min f ((h.length : Int) - 1))) + 1) := if_neg ba
 have cf : IntKind.i64.wrap ((h.length : Int) - 1 - (max 0 (min f ((h.length : Int) - 1)))) = (h.length : Int) - 1 - (max 0 (min f ((h.length : Int) - 1))) := by rw [IntKind.wrap_i64]; omega
 have dA : IntKind.i64.wrap ((h.length : Int) - 1 - (max 0 (min f ((h.length : Int) - 1))) + 1) = (h.length : Int) - 1 - (max 0 (min f ((h.length : Int) - 1))) + 1 := by rw [IntKind.wrap_i64]; omega
 have fr : ¬ (h.length : Int) - 1 - (max 0 (min f ((h.length : Int) - 1))) + 1 = 0 := by omega
 have jY : (max c 0).tmod ((h.length : Int) - 1 - (max 0 (min f ((h.length : Int) - 1))) + 1) = (max c 0) % ((h.length : Int) - 1 - (max 0 (min f ((h.length : Int) - 1))) + 1) := Int.tmod_eq_emod_of_nonneg (by omega)
 have b := Qa (n := h.length) (by omega) f c
 rw [e] at b
 have l4 : IntKind.i64.wrap (((h.length : Int) - 1) - (max c 0) % ((h.length : Int) - 1 - (max 0 (min f ((h.length : Int) - 1))) + 1)) = ((h.length : Int) - 1) - (max c 0) % ((h.length : Int) - 1 - (max 0 (min f ((h.length : Int) - 1))) + 1) := by rw [IntKind.wrap_i64]; omega
 rw [e]
 unfold bK N3 Nz;delta ab aa ay
 have ad := And.intro @bJ (And.intro @d (And.intro @cf (And.intro @dA (And.intro @fr (And.intro @jY @l4)))))
 refine ae fun bD aK b9 ck => ai fun ca aH => ?_;refine al ad ?_;refine aH _ (aK (some ([1,2,3],none)) _ (ae fun cg aP bx b8 => ai fun ch bk => ?_));refine ag 2 ad ?_;refine ag 2 ad ?_;refine al ad ?_;refine bk _ (aP (some ([1,2,7],none)) _ (ae fun cM bV dQ eP => ae fun cG bp c5 dn => ai fun cI bE => ?_));refine aS ad ?_;refine bE _ (bp (some ([1,2,7,13],none)) _ (bs (bV (some ([1,2,7],none)) _ (ae fun dB cv g7 gw => ai fun bz aR => ?_))));refine al ad ?_;refine aR _ (cv (some ([1,2,7],none)) _ (ae fun _ eo _ _ => ai fun _ fe => ?_));refine ag 6 ad ?_;refine ag 1 ad ?_;refine ag 1 ad ?_;refine ag 1 ad ?_;refine al ad ?_;refine fe _ (eo (some ([6],none)) _ ?_)
 exact cQ ad
theorem akb (h : List j5) (f c : Int) (a9 : h.length ≤ 100000) : cq 113 [aG c,sI h,aG f] (aG (tO h.length f c)) := by
 refine df Tryz.func113 aod rfl ?_
 unfold bK WY VN;delta ab aa ay
 refine ae fun _ aK _ _ => ai fun _ aH => ?_;refine cE ?_;refine aH _ (aK (some ([0,2,4],none)) _ (ae fun _ aP _ _ => ai fun _ bk => ?_));refine c4 1 ?_;refine eH 2 ?_;refine eH 1 ?_;refine Or.inl (Or.inl ⟨_,ajC h f c a9,?_⟩);refine cE ?_;refine bk _ (aP (some ([6],none)) _ ?_)
 exact jq
theorem aka (h : List j5) (f c : Int) (a9 : h.length ≤ 100000) : cq 112 [aG c,sI h,aG f] (aG ((h.length : Int) - 1)) := by
 have bJ : IntKind.i64.wrap ((h.length : Int) - 1) = (h.length : Int) - 1 := by rw [IntKind.wrap_i64]; omega
 refine df Tryz.func112 aoc rfl ?_
 unfold bK WX VM;delta ab aa ay
 have ad := @bJ
 refine ae fun _ aK _ _ => ai fun _ aH => ?_;refine al ad ?_;refine aH _ (aK (some ([4],none)) _ (ae fun _ aP _ _ => ai fun _ bk => ?_));refine ag 1 ad ?_;refine aM 1 ad ?_;refine Or.inl (Or.inl ⟨_,Hi h,?_⟩);refine ag 1 ad ?_;refine al ad ?_;refine bk _ (aP (some ([6],none)) _ ?_)
 exact cQ ad
end Go.Proofs.YtkmbcjnaaokilaaGreatDoor
