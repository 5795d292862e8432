/-
  Layer 5 by shadows: Flush, Sync.
-/
import Derived.Test.YtkmbcjnaaokilaaGreatDoorMK24
import Derived.Test.YtkmbcjnaaokilaaGreatDoorMA
namespace Go.Proofs.YtkmbcjnaaokilaaGreatDoor
set_option linter.unusedSimpArgs false
set_option linter.unusedVariables false
open Go.RowKit Go.Maps
set_option maxRecDepth 100000 in
set_option maxHeartbeats 400000 in
theorem ZW (b : Nat) (es : Array MapEntry) (clock : Nat) (w : World) (aJ : w.heap[b]? = some (.map es clock)) :
  Calls Tryz.prog 102 #[.map (some b)] w fun e w' => e = .returned (.map (some w.heap.size)) ∧ w' = w.alloc (.map es clock) := by
 have aS := fun w => zg w 185 _ _ (some b) Tryz.underlying185
 go_enter Tryz.func102,Tryz.ntmps102
 go_wp2
 rw [run_callFunc_extern Tryz.func110 (by kernel_rfl) (by kernel_rfl) (by kernel_rfl) (e := Extern.MapsClone.clone) (by kernel_rfl),run_maps_clone_sl w 185 aJ]
 simp only [Result.andThen]
 rw [Oper.upon_value]
 go_wp2
 rw [run_typeAssert_map_sl _ 185 20 _ _ _ Tryz.underlying185]
 simp only [Result.andThen]
 rw [Oper.upon_value]
 go_wp2
 go_ret
 exact ⟨rfl,rfl⟩
set_option maxRecDepth 100000 in
set_option maxHeartbeats 400000 in
theorem ZV (w : World) :
  Calls Tryz.prog 102 #[.map none] w fun e w' => e = .returned (.map none) ∧ w' = w := by
 have aS := fun w => zg w 185 _ _ none Tryz.underlying185
 go_enter Tryz.func102,Tryz.ntmps102
 go_wp2
 go_ret
 exact ⟨rfl,rfl⟩
set_option maxRecDepth 100000 in
set_option maxHeartbeats 400000 in
theorem ZY (b : Nat) (es : Array MapEntry) (clock : Nat) (w : World) (aJ : w.heap[b]? = some (.map es clock)) :
  Calls Tryz.prog 103 #[.map (some b)] w fun e w' => e = .returned (.map (some w.heap.size)) ∧ w' = w.alloc (.map es clock) := by
 have aS := fun w => zg w 55 _ _ (some b) Tryz.underlying55
 go_enter Tryz.func103,Tryz.ntmps103
 go_wp2
 rw [run_callFunc_extern Tryz.func110 (by kernel_rfl) (by kernel_rfl) (by kernel_rfl) (e := Extern.MapsClone.clone) (by kernel_rfl),run_maps_clone_sl w 55 aJ]
 simp only [Result.andThen]
 rw [Oper.upon_value]
 go_wp2
 rw [run_typeAssert_map_sl _ 55 20 _ _ _ Tryz.underlying55]
 simp only [Result.andThen]
 rw [Oper.upon_value]
 go_wp2
 go_ret
 exact ⟨rfl,rfl⟩
set_option maxRecDepth 100000 in
set_option maxHeartbeats 400000 in
theorem ZX (w : World) :
  Calls Tryz.prog 103 #[.map none] w fun e w' => e = .returned (.map none) ∧ w' = w := by
 have aS := fun w => zg w 55 _ _ none Tryz.underlying55
 go_enter Tryz.func103,Tryz.ntmps103
 go_wp2
 go_ret
 exact ⟨rfl,rfl⟩
theorem aeQ (f : Int → Option av) (aW : ∀ k,f k ≠ none → 0 ≤ k ∧ k < 4096) : zY 102 [.mp 3 f] 3 4096 f := by
 intro w H vs ao bj
 cases bj with
 | cons ar aO =>
  cases aO
  cases ar with
  | mR bb =>
   refine Calls.mono (ZV w) ?_
   rintro fw w' ⟨rfl,rfl⟩
   exact ⟨_,rfl,Grow.refl ao,.inl ⟨rfl,bb⟩⟩
  | @mp _ _ _ b o M F aJ hm dS aq ax =>
   obtain ⟨D,⟨es,clock,rfl,_⟩,_⟩ := hm
   refine Calls.mono (ZW b es clock w (ao b _ aJ)) ?_
   rintro fw w' ⟨rfl,rfl⟩
   refine ⟨_,rfl,(Grow.refl ao).alloc _,.inr ⟨w.heap.size,_,F,rfl,Nat.le_refl _,heap_alloc_new w _,hR.tight (n := M) ⟨D,⟨es,clock,rfl,‹_›⟩,‹_›⟩ Tryz.underlying3 4096 (fun k aB => aW k (fun e => by rw [(aq k).1 e] at aB; cases aB)),by omega,aq,ax⟩⟩
theorem JQ (f : Int → Option av) (aW : ∀ k,f k ≠ none → 0 ≤ k ∧ k < 4096) : zY 103 [.mp 3 f] 3 4096 f := by
 intro w H vs ao bj
 cases bj with
 | cons ar aO =>
  cases aO
  cases ar with
  | mR bb =>
   refine Calls.mono (ZX w) ?_
   rintro fw w' ⟨rfl,rfl⟩
   exact ⟨_,rfl,Grow.refl ao,.inl ⟨rfl,bb⟩⟩
  | @mp _ _ _ b o M F aJ hm dS aq ax =>
   obtain ⟨D,⟨es,clock,rfl,_⟩,_⟩ := hm
   refine Calls.mono (ZY b es clock w (ao b _ aJ)) ?_
   rintro fw w' ⟨rfl,rfl⟩
   refine ⟨_,rfl,(Grow.refl ao).alloc _,.inr ⟨w.heap.size,_,F,rfl,Nat.le_refl _,heap_alloc_new w _,hR.tight (n := M) ⟨D,⟨es,clock,rfl,‹_›⟩,‹_›⟩ Tryz.underlying3 4096 (fun k aB => aW k (fun e => by rw [(aq k).1 e] at aB; cases aB)),by omega,aq,ax⟩⟩
def iq (L : hk) (t : Int) : Int → Option Int := (L.asks t).getD fun _ => none
structure Gq (L : hk) : Prop where
 Ua : ∀ t,L.asks t ≠ none → 1 ≤ t ∧ t ≤ 8
 line : ∀ t (k : Int) m,iq L t k = some m → ∃ (n : Nat) (y : pL),k = (n : Int) ∧ L.eQ[n]? = some y ∧ 0 ≤ m ∧ m ≤ (y.fI.length : Int)
def sQ (L : hk) (t a : Int) : hk :=
 match L.eQ[a.toNat / 8]? with
 | some y => { L with asks := fun s => if s = t then some (fun k => if k = ((a.toNat / 8 : Nat) : Int) then some (y.fI.length : Int) else iq L t k) else L.asks s }
 | none => L
theorem M6 (L : hk) (t : Int) : (Option.map kR (L.asks t)).getD (.mp 3 fun _ => none) = kR (iq L t) := by
 unfold iq; cases L.asks t <;> rfl
theorem DS (L : hk) (t a : Int) (m : Nat) (y : pL) (n8 : m = a.toNat / 8) (a1 : L.eQ[m]? = some y) (A B : Int → Option av) (af : ∀ k,A k = (iq L t k).map aI) (aj : ∀ k,B k = (L.asks k).map kR) :
  av.bR [.agg [.au 3 0 (L.first.map dj),.au 2 0 (L.eQ.map pb),.mp 3 fun j => if j = t then some (.mp 3 fun j => if j = (m : Int) then some (aI y.fI.length) else A j) else B j],aI 0] = .bR [oz (sQ L t a),aI 0] := by
 obtain rfl : A = fun k => (iq L t k).map aI := funext af
 obtain rfl : B = fun k => (L.asks k).map kR := funext aj
 have e : (fun j => if j = t then some (av.mp 3 fun j => if j = (m : Int) then some (aI y.fI.length) else (iq L t j).map aI) else (L.asks j).map kR) = fun s => (if s = t then some (fun k => if k = (m : Int) then some (y.fI.length : Int) else iq L t k) else L.asks s).map kR := by
  funext j
  by_cases e : j = t
  ·simp only [e,if_true,Option.map_some,kR]
   congr 2
   funext k
   by_cases a8 : k = (m : Int) <;> simp [a8]
  ·simp only [e,if_false]
 unfold sQ
 rw [← n8,a1]
 simp only [oz]
 rw [← e]
set_option maxHeartbeats 4000000 in
theorem agj (L : hk) (t a : Int) (ej : zU L) (br : Gq L) (aO : 1 ≤ t ∧ t ≤ 8) (aZ : 0 ≤ a ∧ a < (L.first.length : Int)) : cu 91 [oz L,aI t,aI a] (.bR [oz (sQ L t a),aI 0]) := by
 refine df Tryz.func91 ajW rfl ?_
 have Pr := ej.many
 have Pu := ej.mn
 obtain ⟨m,n8⟩ : ∃ m,m = a.toNat / 8 := ⟨_,rfl⟩
 have aS : IntKind.i64.wrap (a.tdiv 8) = (m : Int) := by rw [IntKind.wrap_i64,Int.tdiv_eq_ediv_of_nonneg aZ.1]; omega
 have kC : m < L.eQ.length := by omega
 obtain ⟨y,a1⟩ : ∃ y,L.eQ[m]? = some y := ⟨L.eQ[m],by simp⟩
 have sY : ∀ k,(iq L t k).map aI ≠ none → 0 ≤ k ∧ k < 4096 := fun k aB => by
  cases e : iq L t k with
  | none => rw [e] at aB; exact absurd rfl aB
  | some v =>
   obtain ⟨n,y,rfl,af,_⟩ := br.line t k v e
   have := (List.getElem?_eq_some_iff.1 af).1
   omega
 have rZ : ∀ k,(L.asks k).map kR ≠ none → 0 ≤ k ∧ k < 4096 := fun k aB => by
  have := br.Ua k (fun e => aB (by rw [e]; rfl))
  omega
 unfold bJ Tj Sc;delta ab aR aa aA
 have ad := And.intro @M6 (And.intro @aS @a1)
 refine ae fun _ aK _ _ => ai fun _ aG => ?_;refine an ad ?_;refine aG _ (aK (some ([1,2,3,6],none)) _ (ae fun _ aQ _ _ => cx fun _ bG _ _ _ => ae fun _ bT _ _ => ai fun _ de => ?_));refine aL 1 ad ?_;refine aL 1 ad ?_;refine Or.inl (Or.inl ⟨_,QU t,?_⟩);refine an ad ?_;refine de _ (bT (some ([1,2,3,6,10],none)) _ ?_);refine mb rfl (fun ar => absurd ar (by simp [aO] at ar)) (fun oG => ?_)
 clear oG
 refine ae fun _ cp _ _ => ai fun _ c0 => ?_;refine ag 1 ad ?_;refine aL 1 ad ?_;refine aL 1 ad ?_;refine Or.inl (Or.inl ⟨_,QT L a,?_⟩);refine an ad ?_;refine c0 _ (cp (some ([1,2,3,6,15],none)) _ ?_);refine mb rfl (fun ar => absurd ar (by simp [aZ] at ar)) (fun mE => ?_)
 clear mE
 refine bG _ (aQ (some ([1,2,3,6],none)) _ (ae fun _ cN _ _ => ai fun _ cF => ?_));refine ag 2 ad ?_;refine ag 2 ad ?_;refine aL 1 ad ?_;refine Or.inl (Or.inr (Or.inr ⟨_,_,_,aeQ _ sY,?_,fun xh => ?_⟩))
 ·skip
  refine an ad ?_;refine cF _ (cN (some ([1,2,3,6,8],none)) _ (ae fun _ ct _ _ => ae fun _ eW _ _ => ai fun _ ed => ?_));refine aL 1 ad ?_;refine an ad ?_;refine Or.inr ⟨⟨_,_,Tryz.underlying185⟩,?_⟩;refine ed _ (eW (some ([1,2,3,6,8,27],none)) _ ?_);refine mb rfl (fun ar => absurd ar (by cases ar)) (fun nx => ?_)
  clear nx
  refine ct (some ([1,2,3,6,8],none)) _ (ae fun _ fQ _ _ => ai fun _ eB => ?_);refine ag 2 ad ?_;refine an ad ?_;refine eB _ (fQ (some ([1,3,6,8,9],none)) _ (ae fun _ fy _ _ => ai fun _ eV => ?_));refine ag 4 ad ?_;refine ag 2 ad ?_;refine ag 2 ad ?_;refine aU ad ?_;refine Or.inl ?_;refine eV _ (fy (some ([1,3,6,8],none)) _ (ae fun _ ic _ _ => ai fun _ hz => ?_));refine ag 2 ad ?_;refine aL 1 ad ?_;refine Or.inl (Or.inr (Or.inr ⟨_,_,_,JQ _ rZ,?_,fun Bt => ?_⟩))
  ·skip
   refine aU ad ?_;refine hz _ (ic (some ([1,3,6,8],none)) _ (ae fun _ ix _ _ => ae fun _ h5 _ _ => ai fun _ gr => ?_));refine ag 2 ad ?_;refine an ad ?_;refine Or.inr ⟨⟨_,_,Tryz.underlying55⟩,?_⟩;refine gr _ (h5 (some ([1,3,6,8,46],none)) _ ?_);refine mb rfl (fun ar => absurd ar (by cases ar)) (fun p2 => ?_)
   clear p2
   refine ix (some ([1,3,6,8],none)) _ (ae fun _ ke _ _ => ai fun _ iS => ?_);refine ag 2 ad ?_;refine aU ad ?_;refine Or.inl ?_;refine iS _ (ke (some ([3,6],none)) _ (ae fun _ qd _ _ => ai fun _ iT => ?_));refine ag 1 ad ?_;refine ag 1 ad ?_;refine an ad ?_;refine iT _ (qd (some ([6,7],none)) _ ?_);refine jc ad ?_;refine DS L t a m y n8 a1 _ _ (fun k => ?_) (fun k => ?_) <;> first | rfl | exact (xh k).symm | exact (Bt k).symm
  ·skip
   refine aU ad ?_;refine hz _ (ic (some ([1,3,6,8],none)) _ (ae fun _ kf _ _ => ae fun _ mL _ _ => ai fun _ iW => ?_));refine ag 2 ad ?_;refine an ad ?_;refine Or.inl ⟨_,DI Tryz.underlying55,?_⟩;refine iW _ (mL (some ([1,3,6,8,46],none)) _ ?_);refine mb rfl (fun p2 => ?_) (fun ar => absurd ar (by cases ar))
   clear p2
   refine ai fun _ kb => ?_;refine aU ad ?_;refine kb _ (kf (some ([1,3,6,8],none)) _ (ae fun _ nC _ _ => ai fun _ ny => ?_));refine ag 2 ad ?_;refine aU ad ?_;refine Or.inl ?_;refine ny _ (nC (some ([3,6],none)) _ (ae fun _ kZ _ _ => ai fun _ lR => ?_));refine ag 1 ad ?_;refine ag 1 ad ?_;refine an ad ?_;refine lR _ (kZ (some ([6,7],none)) _ ?_);refine jc ad ?_;refine DS L t a m y n8 a1 _ _ (fun k => ?_) (fun k => ?_) <;> first | rfl | exact (xh k).symm | exact (Bt k).symm
 ·skip
  refine an ad ?_;refine cF _ (cN (some ([1,2,3,6,8],none)) _ (ae fun _ qf _ _ => ae fun _ oM _ _ => ai fun _ mH => ?_));refine aL 1 ad ?_;refine an ad ?_;refine Or.inl ⟨_,DI Tryz.underlying185,?_⟩;refine mH _ (oM (some ([1,2,3,6,8,27],none)) _ ?_);refine mb rfl (fun nx => ?_) (fun ar => absurd ar (by cases ar))
  clear nx
  refine ai fun _ oJ => ?_;refine an ad ?_;refine oJ _ (qf (some ([1,2,3,6,8],none)) _ (ae fun _ I1 _ _ => ai fun _ nz => ?_));refine ag 2 ad ?_;refine an ad ?_;refine nz _ (I1 (some ([1,3,6,8,9],none)) _ (ae fun _ w8 _ _ => ai fun _ nA => ?_));refine ag 4 ad ?_;refine ag 2 ad ?_;refine ag 2 ad ?_;refine aU ad ?_;refine Or.inl ?_;refine nA _ (w8 (some ([1,3,6,8],none)) _ (ae fun _ sW _ _ => ai fun _ qX => ?_));refine ag 2 ad ?_;refine aL 1 ad ?_;refine Or.inl (Or.inr (Or.inr ⟨_,_,_,JQ _ rZ,?_,fun Bt => ?_⟩))
  ·skip
   refine aU ad ?_;refine qX _ (sW (some ([1,3,6,8],none)) _ (ae fun _ Bi _ _ => ae fun _ Bj _ _ => ai fun _ rO => ?_));refine ag 2 ad ?_;refine an ad ?_;refine Or.inr ⟨⟨_,_,Tryz.underlying55⟩,?_⟩;refine rO _ (Bj (some ([1,3,6,8,46],none)) _ ?_);refine mb rfl (fun ar => absurd ar (by cases ar)) (fun p2 => ?_)
   clear p2
   refine Bi (some ([1,3,6,8],none)) _ (ae fun _ Bk _ _ => ai fun _ rP => ?_);refine ag 2 ad ?_;refine aU ad ?_;refine Or.inl ?_;refine rP _ (Bk (some ([3,6],none)) _ (ae fun _ xc _ _ => ai fun _ p8 => ?_));refine ag 1 ad ?_;refine ag 1 ad ?_;refine an ad ?_;refine p8 _ (xc (some ([6,7],none)) _ ?_);refine jc ad ?_;refine DS L t a m y n8 a1 _ _ (fun k => ?_) (fun k => ?_) <;> first | rfl | exact (xh k).symm | exact (Bt k).symm
  ·skip
   refine aU ad ?_;refine qX _ (sW (some ([1,3,6,8],none)) _ (ae fun _ Bm _ _ => ae fun _ ud _ _ => ai fun _ rS => ?_));refine ag 2 ad ?_;refine an ad ?_;refine Or.inl ⟨_,DI Tryz.underlying55,?_⟩;refine rS _ (ud (some ([1,3,6,8,46],none)) _ ?_);refine mb rfl (fun p2 => ?_) (fun ar => absurd ar (by cases ar))
   clear p2
   refine ai fun _ p9 => ?_;refine aU ad ?_;refine p9 _ (Bm (some ([1,3,6,8],none)) _ (ae fun _ xd _ _ => ai fun _ ua => ?_));refine ag 2 ad ?_;refine aU ad ?_;refine Or.inl ?_;refine ua _ (xd (some ([3,6],none)) _ (ae fun _ xe _ _ => ai fun _ rT => ?_));refine ag 1 ad ?_;refine ag 1 ad ?_;refine an ad ?_;refine rT _ (xe (some ([6,7],none)) _ ?_);refine jc ad ?_;refine DS L t a m y n8 a1 _ _ (fun k => ?_) (fun k => ?_) <;> first | rfl | exact (xh k).symm | exact (Bt k).symm
def qt (g : Int → Option Int) (k : Nat) (y : pL) : pL := match g (k : Int) with | some m => { y with kept := max y.kept m } | none => y
def oq (L : hk) (t : Int) : hk := { L with eQ := L.eQ.mapIdx (qt (iq L t)),asks := fun s => if s = t then none else L.asks s }
def r7 (g : Int → Option Int) (left : Int → Bool) : Int → Option Int := fun k => if left k = true then none else g k
abbrev ZO (L : hk) : bl := .box 57 [.au 3 0 (L.first.map dj),.own 2,.mp 3 fun t => (L.asks t).map kR]
def WH (L : hk) (t : Int) (k : Nat) (S : ak) : Prop :=
 ∃ left cur,(∀ j,left j = true → (iq L t j).isSome = true) ∧ S = ⟨[(1,aI t),(2,.ptr 0 0 0),(4,.ptr 1 0 0),(20,.own 3)],
  [(0,ZO L),(1,.box 57 [.au 3 0 [],.au 2 0 [],.mp 3 fun _ => none]),(2,.row 177 2 ((L.eQ.mapIdx (qt (r7 (iq L t) left))).map pb)),(3,.iter (fun k => (iq L t k).map aI) left k cur)],4⟩
theorem ah4 (g : Int → Option Int) (left : Int → Bool) (l : List pL) (n : Nat) (y : pL) (a1 : l[n]? = some y) (a7 : left (n : Int) = true) : (l.mapIdx (qt (r7 g left)))[n]? = some y := by
 rw [List.getElem?_mapIdx,a1]
 simp [qt,r7,a7]
theorem ah5 (g : Int → Option Int) (left : Int → Bool) (l : List pL) (n : Nat) (y : pL) (m : Int) (a1 : l[n]? = some y) (aH : g (n : Int) = some m) :
  l.mapIdx (qt (r7 g fun z => left z && z != (n : Int))) = (l.mapIdx (qt (r7 g left))).set n { y with kept := max y.kept m } := by
 refine List.ext_getElem? fun i => ?_
 rw [List.getElem?_mapIdx,List.getElem?_set]
 by_cases e : n = i
 ·subst e
  obtain ⟨af,aj⟩ := List.getElem?_eq_some_iff.1 a1
  simp [qt,r7,aH,af,aj]
 ·rw [if_neg e,List.getElem?_mapIdx]
  have a8 : ¬ (i : Int) = (n : Int) := by omega
  cases h : l[i]? with
  | none => rfl
  | some z => simp [qt,r7,a8,bne]
theorem LV (L : hk) (t : Int) (B : Int → Option av) (aj : ∀ k,B k = (L.asks k).map kR) :
  av.bR [.agg [.au 3 0 (L.first.map dj),.au 2 0 ((L.eQ.mapIdx (qt (iq L t))).map pb),.mp 3 fun j => if j = t then none else B j],aI 0] = .bR [oz (oq L t),aI 0] := by
 obtain rfl : B = fun k => (L.asks k).map kR := funext aj
 have e : (fun j => if j = t then none else (L.asks j).map kR) = fun s => (if s = t then none else L.asks s).map kR := by
  funext j
  by_cases e : j = t <;> simp [e]
 simp only [oz,oq]
 rw [← e]
theorem T6 (L : hk) (t : Int) (h : ∀ k,(L.asks k).map kR = none) : Di (.bR [.agg [.au 3 0 (L.first.map dj),.au 2 0 ((L.eQ.mapIdx (qt (iq L t))).map pb),.v (.map none)],aI 0]) (.bR [oz (oq L t),aI 0]) := by
 rw [← LV L t (fun _ => none) (fun k => (h k).symm)]
 intro H v bj
 cases bj with
 | bR bj =>
  cases bj with
  | cons af aid =>
   cases af with
   | agg af aj =>
    cases af with
    | cons a af =>
     cases af with
     | cons b af =>
      cases af with
      | cons c af =>
       cases af
       cases c
       exact .bR (.cons (.agg (.cons a (.cons b (.cons (.mR fun i => by simp) .nil))) rfl) aid)
set_option maxHeartbeats 4000000 in
theorem agn (L : hk) (t : Int) (ej : zU L) (br : Gq L) (aO : 1 ≤ t ∧ t ≤ 8) : cu 92 [oz L,aI t] (.bR [oz (oq L t),aI 0]) := by
 refine Q3 Tryz.func92 aj0 rfl ?_
 have Pr := ej.many
 have Pu := ej.mn
 have n9 : ∀ left : Int → Bool,(∀ j,left j = false) → r7 (iq L t) left = iq L t := fun left h => by funext j; simp [r7,h]
 have rZ : ∀ k,(L.asks k).map kR ≠ none → 0 ≤ k ∧ k < 4096 := fun k aB => by
  have := br.Ua k (fun e => aB (by rw [e]; rfl))
  omega
 unfold DM Tn Sg;delta ab aR aa aA
 have ad := @M6
 refine ae fun _ aK _ _ => ai fun _ aG => ?_;refine an ad ?_;refine aG _ (aK (some ([1,2,4],none)) _ (ae fun _ aQ _ _ => ae fun _ bG _ _ => ai fun _ bZ => ?_));refine aL 1 ad ?_;refine aL 1 ad ?_;refine Or.inl (Or.inl ⟨_,QU t,?_⟩);refine an ad ?_;refine bZ _ (bG (some ([1,2,4,10],none)) _ ?_);refine mb rfl (fun ar => absurd ar (by simp [aO] at ar)) (fun oG => ?_)
 clear oG
 refine aQ (some ([1,2,4],none)) _ (ae fun _ bp _ _ => ai fun _ bD => ?_);refine ag 2 ad ?_;refine aL 1 ad ?_;refine Or.inl (Or.inr (Or.inl ⟨_,_,_,Rt 0 _ (by simp; omega),?_⟩));refine aU ad ?_;refine bD _ (bp (some ([1,2,4],none)) _ (ae fun _ ck _ _ => ae fun _ cN _ _ => ai fun _ cF => ?_));refine ag 2 ad ?_;refine ag 2 ad ?_;refine an ad ?_
 first | refine ⟨rfl,fun Af => ?_⟩ | intro Af
 refine cF _ (cN (some ([1,2,4,20],none)) _ (cx fun _ _ qj _ _ => ?_));refine jS (WH L t) (Af) (some ([1,2,4,20],some ([0,1,2,3],4))) ([]) ?_ ?_
 ·try refine eC ?_
  refine ⟨fun i => (Option.map aI (iq L t i)).isSome,none,fun j h => by simpa using h,?_⟩
  have e : L.eQ.mapIdx (qt (r7 (iq L t) fun i => (Option.map aI (iq L t i)).isSome)) = L.eQ := by
   refine List.ext_getElem? fun i => ?_
   rw [List.getElem?_mapIdx]
   cases h : L.eQ[i]? with
   | none => rfl
   | some z => cases aj : iq L t i <;> simp [qt,r7,aj]
  rw [e]
 ·intro k b0 aY
  obtain ⟨left,cur,IW,rfl⟩ := aY
  intro _ eW _ j7
  refine ae fun _ dJ _ _ => ai fun _ dt => ?_;refine aL 1 ad ?_;refine ⟨fun kD => ?_,fun r3 ahT Ad qW kB acD acE II => ?_⟩
  ·skip
   refine an ad ?_;refine dt _ (dJ (some ([1,2,4,20,22],none)) _ (ae fun _ _ _ lP => ?_));refine mb rfl (fun ar => absurd ar (by cases ar)) (fun mE => ?_)
   clear mE
   refine lP 0 _ (j7 0 _ (qj _ (ck (some ([1,2,4],none)) _ (ae fun _ fy _ _ => ai fun _ eV => ?_))));refine ag 2 ad ?_;refine aL 1 ad ?_;refine Or.inl (Or.inr (Or.inr ⟨_,_,_,JQ _ rZ,?_,fun xh => ?_⟩))
   ·skip
    refine aU ad ?_;refine eV _ (fy (some ([1,2,4],none)) _ (ae fun _ ic _ _ => ai fun _ hz => ?_));refine ag 2 ad ?_;refine aU ad ?_;refine hz _ (ic (some ([2,4],none)) _ (ae fun _ ix _ _ => ai fun _ ht => ?_));refine ag 1 ad ?_;refine ag 1 ad ?_;refine an ad ?_;refine ht _ (ix (some ([4,5],none)) _ ?_);refine jc ad ?_
    rw [n9 left kD]
    first
     | exact T6 L t xh
     | (rw [← LV L t (fun k => (L.asks k).map kR) (fun k => rfl)]; exact fun _ _ h => h)
   ·skip
    refine aU ad ?_;refine eV _ (fy (some ([1,2,4],none)) _ (ae fun _ lS _ _ => ai fun _ hK => ?_));refine ag 2 ad ?_;refine aU ad ?_;refine hK _ (lS (some ([2,4],none)) _ (ae fun _ iX _ _ => ai fun _ gu => ?_));refine ag 1 ad ?_;refine ag 1 ad ?_;refine an ad ?_;refine gu _ (iX (some ([4,5],none)) _ ?_);refine jc ad ?_
    rw [n9 left kD]
    first
     | exact T6 L t xh
     | (rw [← LV L t (fun k => (L.asks k).map kR) (fun k => rfl)]; exact fun _ _ h => h)
  ·skip
   obtain ⟨m,hm,rfl⟩ := Option.map_eq_some_iff.1 kB
   obtain ⟨n,y,rfl,a1,IZ,w7⟩ := br.line t r3 m hm
   have ph := (List.getElem?_eq_some_iff.1 a1).1
   have gp := ah4 (iq L t) left L.eQ n y a1 qW
   have aD := And.intro ad @gp
   refine an aD ?_;refine dt _ (dJ (some ([1,2,4,20,22],none)) _ (ae fun _ kY _ _ => ?_));refine mb rfl (fun mE => ?_) (fun ar => absurd ar (by cases ar))
   clear mE
   refine kY (some ([1,2,4,20],none)) _ (cx fun _ kf _ _ _ => ae fun _ mL _ _ => ai fun _ iW => ?_);refine an aD ?_;refine iW _ (mL (some ([1,2,4,6,7,20],none)) _ ?_);refine hy [] (n := 11) fun _ kb => ?_;refine hv ?_;refine cR 2 aD ?_;refine cR 3 aD ?_;refine cR 2 aD ?_;refine cR 2 aD ?_;refine lJ aD ?_;refine kb _ ?_;refine hx ?_;refine ag 1 aD ?_;refine aU aD ?_;refine kf _ ?_;refine eW (Ad) (some ([1,2,4,20],some ([0,1,2,3],4))) _ ?_ ?_
   all_goals try refine eC ?_
   ·exact II
   ·refine ⟨fun z => left z && z != (n : Int),some ((n : Int),aI m),fun j h => IW j (by simp only [Bool.and_eq_true] at h; exact h.1),?_⟩
    rw [ah5 (iq L t) left L.eQ n y m a1 hm,List.map_set]
end Go.Proofs.YtkmbcjnaaokilaaGreatDoor
