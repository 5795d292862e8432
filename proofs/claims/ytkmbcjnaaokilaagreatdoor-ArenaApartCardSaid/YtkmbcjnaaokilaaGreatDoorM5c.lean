/-
  Layer 5 by shadows: Flush, Sync.
-/
import Derived.Test.YtkmbcjnaaokilaaGreatDoorMK21
import Derived.Test.YtkmbcjnaaokilaaGreatDoorMA
namespace Go.Proofs.YtkmbcjnaaokilaaGreatDoor
set_option linter.unusedSimpArgs false
set_option linter.unusedVariables false
open Go.RowKit Go.Maps
set_option maxRecDepth 100000 in
set_option maxHeartbeats 400000 in
theorem adi (b : Nat) (es : Array MapEntry) (clock : Nat) (w : World) (aI : w.heap[b]? = some (.map es clock)) :
  Calls Tryz.prog 102 #[.map (some b)] w fun e w' => e = .returned (.map (some w.heap.size)) ∧ w' = w.alloc (.map es clock) := by
 have aT := fun w => AU w 185 _ _ (some b) Tryz.underlying185
 go_enter Tryz.func102,Tryz.ntmps102
 go_wp2
 rw [run_callFunc_extern Tryz.func110 (by kernel_rfl) (by kernel_rfl) (by kernel_rfl) (e := Extern.MapsClone.clone) (by kernel_rfl),run_maps_clone_sl w 185 aI]
 simp only [Result.andThen]
 rw [Oper.upon_value]
 go_wp2
 rw [run_typeAssert_map_sl _ 185 20 _ _ _ Tryz.underlying185]
 simp only [Result.andThen]
 rw [Oper.upon_value]
 go_wp2
 go_ret
 exact ⟨rfl,rfl⟩
set_option maxRecDepth 100000 in
set_option maxHeartbeats 400000 in
theorem adh (w : World) :
  Calls Tryz.prog 102 #[.map none] w fun e w' => e = .returned (.map none) ∧ w' = w := by
 have aT := fun w => AU w 185 _ _ none Tryz.underlying185
 go_enter Tryz.func102,Tryz.ntmps102
 go_wp2
 go_ret
 exact ⟨rfl,rfl⟩
set_option maxRecDepth 100000 in
set_option maxHeartbeats 400000 in
theorem adk (b : Nat) (es : Array MapEntry) (clock : Nat) (w : World) (aI : w.heap[b]? = some (.map es clock)) :
  Calls Tryz.prog 103 #[.map (some b)] w fun e w' => e = .returned (.map (some w.heap.size)) ∧ w' = w.alloc (.map es clock) := by
 have aT := fun w => AU w 55 _ _ (some b) Tryz.underlying55
 go_enter Tryz.func103,Tryz.ntmps103
 go_wp2
 rw [run_callFunc_extern Tryz.func110 (by kernel_rfl) (by kernel_rfl) (by kernel_rfl) (e := Extern.MapsClone.clone) (by kernel_rfl),run_maps_clone_sl w 55 aI]
 simp only [Result.andThen]
 rw [Oper.upon_value]
 go_wp2
 rw [run_typeAssert_map_sl _ 55 20 _ _ _ Tryz.underlying55]
 simp only [Result.andThen]
 rw [Oper.upon_value]
 go_wp2
 go_ret
 exact ⟨rfl,rfl⟩
set_option maxRecDepth 100000 in
set_option maxHeartbeats 400000 in
theorem adj (w : World) :
  Calls Tryz.prog 103 #[.map none] w fun e w' => e = .returned (.map none) ∧ w' = w := by
 have aT := fun w => AU w 55 _ _ none Tryz.underlying55
 go_enter Tryz.func103,Tryz.ntmps103
 go_wp2
 go_ret
 exact ⟨rfl,rfl⟩
theorem ais (f : Int → Option aw) (aZ : ∀ k,f k ≠ none → 0 ≤ k ∧ k < 4096) : Br 102 [.mp 3 f] 3 4096 f := by
 intro w H vs ao bj
 cases bj with
 | cons ar aL =>
  cases aL
  cases ar with
  | nA ba =>
   refine Calls.mono (adh w) ?_
   rintro fI w' ⟨rfl,rfl⟩
   exact ⟨_,rfl,Grow.refl ao,.inl ⟨rfl,ba⟩⟩
  | @mp _ _ _ b o M F aI hm dy aq aA =>
   obtain ⟨D,⟨es,clock,rfl,_⟩,_⟩ := hm
   refine Calls.mono (adi b es clock w (ao b _ aI)) ?_
   rintro fI w' ⟨rfl,rfl⟩
   refine ⟨_,rfl,(Grow.refl ao).alloc _,.inr ⟨w.heap.size,_,F,rfl,Nat.le_refl _,heap_alloc_new w _,h4.tight (n := M) ⟨D,⟨es,clock,rfl,‹_›⟩,‹_›⟩ Tryz.underlying3 4096 (fun k az => aZ k (fun e => by rw [(aq k).1 e] at az; cases az)),by omega,aq,aA⟩⟩
theorem Mm (f : Int → Option aw) (aZ : ∀ k,f k ≠ none → 0 ≤ k ∧ k < 4096) : Br 103 [.mp 3 f] 3 4096 f := by
 intro w H vs ao bj
 cases bj with
 | cons ar aL =>
  cases aL
  cases ar with
  | nA ba =>
   refine Calls.mono (adj w) ?_
   rintro fI w' ⟨rfl,rfl⟩
   exact ⟨_,rfl,Grow.refl ao,.inl ⟨rfl,ba⟩⟩
  | @mp _ _ _ b o M F aI hm dy aq aA =>
   obtain ⟨D,⟨es,clock,rfl,_⟩,_⟩ := hm
   refine Calls.mono (adk b es clock w (ao b _ aI)) ?_
   rintro fI w' ⟨rfl,rfl⟩
   refine ⟨_,rfl,(Grow.refl ao).alloc _,.inr ⟨w.heap.size,_,F,rfl,Nat.le_refl _,heap_alloc_new w _,h4.tight (n := M) ⟨D,⟨es,clock,rfl,‹_›⟩,‹_›⟩ Tryz.underlying3 4096 (fun k az => aZ k (fun e => by rw [(aq k).1 e] at az; cases az)),by omega,aq,aA⟩⟩
def iH (L : hz) (t : Int) : Int → Option Int := (L.asks t).getD fun _ => none
structure Ir (L : hz) : Prop where
 Xo : ∀ t,L.asks t ≠ none → 1 ≤ t ∧ t ≤ 8
 line : ∀ t (k : Int) m,iH L t k = some m → ∃ (n : Nat) (y : qN),k = (n : Int) ∧ L.eX[n]? = some y ∧ 0 ≤ m ∧ m ≤ (y.fU.length : Int)
def tT (L : hz) (t a : Int) : hz :=
 match L.eX[a.toNat / 8]? with
 | some y => { L with asks := fun s => if s = t then some (fun k => if k = ((a.toNat / 8 : Nat) : Int) then some (y.fU.length : Int) else iH L t k) else L.asks s }
 | none => L
theorem PW (L : hz) (t : Int) : (Option.map lf (L.asks t)).getD (.mp 3 fun _ => none) = lf (iH L t) := by
 unfold iH; cases L.asks t <;> rfl
theorem FU (L : hz) (t a : Int) (m : Nat) (y : qN) (o0 : m = a.toNat / 8) (aV : L.eX[m]? = some y) (A B : Int → Option aw) (af : ∀ k,A k = (iH L t k).map aG) (aj : ∀ k,B k = (L.asks k).map lf) :
  aw.bY [.agg [.au 3 0 (L.first.map c6),.au 2 0 (L.eX.map qg),.mp 3 fun j => if j = t then some (.mp 3 fun j => if j = (m : Int) then some (aG y.fU.length) else A j) else B j],aG 0] = .bY [pw (tT L t a),aG 0] := by
 obtain rfl : A = fun k => (iH L t k).map aG := funext af
 obtain rfl : B = fun k => (L.asks k).map lf := funext aj
 have e : (fun j => if j = t then some (aw.mp 3 fun j => if j = (m : Int) then some (aG y.fU.length) else (iH L t j).map aG) else (L.asks j).map lf) = fun s => (if s = t then some (fun k => if k = (m : Int) then some (y.fU.length : Int) else iH L t k) else L.asks s).map lf := by
  funext j
  by_cases e : j = t
  ·simp only [e,if_true,Option.map_some,lf]
   congr 2
   funext k
   by_cases a7 : k = (m : Int) <;> simp [a7]
  ·simp only [e,if_false]
 unfold tT
 rw [← o0,aV]
 simp only [pw]
 rw [← e]
set_option maxHeartbeats 4000000 in
theorem ajP (L : hz) (t a : Int) (fS : Bo L) (br : Ir L) (aL : 1 ≤ t ∧ t ≤ 8) (a5 : 0 ≤ a ∧ a < (L.first.length : Int)) : cq 91 [pw L,aG t,aG a] (.bY [pw (tT L t a),aG 0]) := by
 refine df Tryz.func91 anD rfl ?_
 have Se := fS.many
 have Sg := fS.mZ
 obtain ⟨m,o0⟩ : ∃ m,m = a.toNat / 8 := ⟨_,rfl⟩
 have aT : IntKind.i64.wrap (a.tdiv 8) = (m : Int) := by rw [IntKind.wrap_i64,Int.tdiv_eq_ediv_of_nonneg a5.1]; omega
 have kT : m < L.eX.length := by omega
 obtain ⟨y,aV⟩ : ∃ y,L.eX[m]? = some y := ⟨L.eX[m],by simp⟩
 have uc : ∀ k,(iH L t k).map aG ≠ none → 0 ≤ k ∧ k < 4096 := fun k az => by
  cases e : iH L t k with
  | none => rw [e] at az; exact absurd rfl az
  | some v =>
   obtain ⟨n,y,rfl,af,_⟩ := br.line t k v e
   have := (List.getElem?_eq_some_iff.1 af).1
   omega
 have s4 : ∀ k,(L.asks k).map lf ≠ none → 0 ≤ k ∧ k < 4096 := fun k az => by
  have := br.Xo k (fun e => az (by rw [e]; rfl))
  omega
 unfold bK Wy Vq;delta ab aQ aa ay
 have ad := And.intro @PW (And.intro @aT @aV)
 refine ae fun _ aK _ _ => ai fun _ aH => ?_;refine al ad ?_;refine aH _ (aK (some ([1,2,3,6],none)) _ (ae fun _ aP _ _ => cj fun _ bI _ _ _ => ae fun _ bV _ _ => ai fun _ dk => ?_));refine aM 1 ad ?_;refine aM 1 ad ?_;refine Or.inl (Or.inl ⟨_,TX t,?_⟩);refine al ad ?_;refine dk _ (bV (some ([1,2,3,6,10],none)) _ ?_);refine mP rfl (fun ar => absurd ar (by simp [aL] at ar)) (fun pH => ?_)
 clear pH
 refine ae fun _ cz _ _ => ai fun _ c7 => ?_;refine ag 1 ad ?_;refine aM 1 ad ?_;refine aM 1 ad ?_;refine Or.inl (Or.inl ⟨_,TW L a,?_⟩);refine al ad ?_;refine c7 _ (cz (some ([1,2,3,6,15],none)) _ ?_);refine mP rfl (fun ar => absurd ar (by simp [a5] at ar)) (fun nh => ?_)
 clear nh
 refine bI _ (aP (some ([1,2,3,6],none)) _ (ae fun _ cR _ _ => ai fun _ cK => ?_));refine ag 2 ad ?_;refine ag 2 ad ?_;refine aM 1 ad ?_;refine Or.inl (Or.inr (Or.inr ⟨_,_,_,ais _ uc,?_,fun yU => ?_⟩))
 ·skip
  refine al ad ?_;refine cK _ (cR (some ([1,2,3,6,8],none)) _ (ae fun _ cr _ _ => ae fun _ ff _ _ => ai fun _ ew => ?_));refine aM 1 ad ?_;refine al ad ?_;refine Or.inr ⟨⟨_,_,Tryz.underlying185⟩,?_⟩;refine ew _ (ff (some ([1,2,3,6,8,27],none)) _ ?_);refine mP rfl (fun ar => absurd ar (by cases ar)) (fun ot => ?_)
  clear ot
  refine cr (some ([1,2,3,6,8],none)) _ (ae fun _ fx _ _ => ai fun _ eJ => ?_);refine ag 2 ad ?_;refine al ad ?_;refine eJ _ (fx (some ([1,3,6,8,9],none)) _ (ae fun _ fF _ _ => ai fun _ eF => ?_));refine ag 4 ad ?_;refine ag 2 ad ?_;refine ag 2 ad ?_;refine aS ad ?_;refine Or.inl ?_;refine eF _ (fF (some ([1,3,6,8],none)) _ (ae fun _ hM _ _ => ai fun _ hr => ?_));refine ag 2 ad ?_;refine aM 1 ad ?_;refine Or.inl (Or.inr (Or.inr ⟨_,_,_,Mm _ s4,?_,fun C8 => ?_⟩))
  ·skip
   refine aS ad ?_;refine hr _ (hM (some ([1,3,6,8],none)) _ (ae fun _ hZ _ _ => ae fun _ hK _ _ => ai fun _ gf => ?_));refine ag 2 ad ?_;refine al ad ?_;refine Or.inr ⟨⟨_,_,Tryz.underlying55⟩,?_⟩;refine gf _ (hK (some ([1,3,6,8,46],none)) _ ?_);refine mP rfl (fun ar => absurd ar (by cases ar)) (fun ou => ?_)
   clear ou
   refine hZ (some ([1,3,6,8],none)) _ (ae fun _ iu _ _ => ai fun _ iq => ?_);refine ag 2 ad ?_;refine aS ad ?_;refine Or.inl ?_;refine iq _ (iu (some ([3,6],none)) _ (ae fun _ ns _ _ => ai fun _ ir => ?_));refine ag 1 ad ?_;refine ag 1 ad ?_;refine al ad ?_;refine ir _ (ns (some ([6,7],none)) _ ?_);refine jr ad ?_;refine FU L t a m y o0 aV _ _ (fun k => ?_) (fun k => ?_) <;> first | rfl | exact (yU k).symm | exact (C8 k).symm
  ·skip
   refine aS ad ?_;refine hr _ (hM (some ([1,3,6,8],none)) _ (ae fun _ iQ _ _ => ae fun _ mv _ _ => ai fun _ hY => ?_));refine ag 2 ad ?_;refine al ad ?_;refine Or.inl ⟨_,FI Tryz.underlying55,?_⟩;refine hY _ (mv (some ([1,3,6,8,46],none)) _ ?_);refine mP rfl (fun ou => ?_) (fun ar => absurd ar (by cases ar))
   clear ou
   refine ai fun _ jU => ?_;refine aS ad ?_;refine jU _ (iQ (some ([1,3,6,8],none)) _ (ae fun _ mw _ _ => ai fun _ mu => ?_));refine ag 2 ad ?_;refine aS ad ?_;refine Or.inl ?_;refine mu _ (mw (some ([3,6],none)) _ (ae fun _ kD _ _ => ai fun _ lq => ?_));refine ag 1 ad ?_;refine ag 1 ad ?_;refine al ad ?_;refine lq _ (kD (some ([6,7],none)) _ ?_);refine jr ad ?_;refine FU L t a m y o0 aV _ _ (fun k => ?_) (fun k => ?_) <;> first | rfl | exact (yU k).symm | exact (C8 k).symm
 ·skip
  refine al ad ?_;refine cK _ (cR (some ([1,2,3,6,8],none)) _ (ae fun _ pQ _ _ => ae fun _ ox _ _ => ai fun _ nk => ?_));refine aM 1 ad ?_;refine al ad ?_;refine Or.inl ⟨_,FI Tryz.underlying185,?_⟩;refine nk _ (ox (some ([1,2,3,6,8,27],none)) _ ?_);refine mP rfl (fun ot => ?_) (fun ar => absurd ar (by cases ar))
  clear ot
  refine ai fun _ pL => ?_;refine al ad ?_;refine pL _ (pQ (some ([1,2,3,6,8],none)) _ (ae fun _ yK _ _ => ai fun _ nm => ?_));refine ag 2 ad ?_;refine al ad ?_;refine nm _ (yK (some ([1,3,6,8,9],none)) _ (ae fun _ s3 _ _ => ai fun _ np => ?_));refine ag 4 ad ?_;refine ag 2 ad ?_;refine ag 2 ad ?_;refine aS ad ?_;refine Or.inl ?_;refine np _ (s3 (some ([1,3,6,8],none)) _ (ae fun _ r2 _ _ => ai fun _ oY => ?_));refine ag 2 ad ?_;refine aM 1 ad ?_;refine Or.inl (Or.inr (Or.inr ⟨_,_,_,Mm _ s4,?_,fun C8 => ?_⟩))
  ·skip
   refine aS ad ?_;refine oY _ (r2 (some ([1,3,6,8],none)) _ (ae fun _ vp _ _ => ae fun _ C0 _ _ => ai fun _ sX => ?_));refine ag 2 ad ?_;refine al ad ?_;refine Or.inr ⟨⟨_,_,Tryz.underlying55⟩,?_⟩;refine sX _ (C0 (some ([1,3,6,8,46],none)) _ ?_);refine mP rfl (fun ar => absurd ar (by cases ar)) (fun ou => ?_)
   clear ou
   refine vp (some ([1,3,6,8],none)) _ (ae fun _ yN _ _ => ai fun _ vg => ?_);refine ag 2 ad ?_;refine aS ad ?_;refine Or.inl ?_;refine vg _ (yN (some ([3,6],none)) _ (ae fun _ yO _ _ => ai fun _ pN => ?_));refine ag 1 ad ?_;refine ag 1 ad ?_;refine al ad ?_;refine pN _ (yO (some ([6,7],none)) _ ?_);refine jr ad ?_;refine FU L t a m y o0 aV _ _ (fun k => ?_) (fun k => ?_) <;> first | rfl | exact (yU k).symm | exact (C8 k).symm
  ·skip
   refine aS ad ?_;refine oY _ (r2 (some ([1,3,6,8],none)) _ (ae fun _ vr _ _ => ae fun _ vt _ _ => ai fun _ sY => ?_));refine ag 2 ad ?_;refine al ad ?_;refine Or.inl ⟨_,FI Tryz.underlying55,?_⟩;refine sY _ (vt (some ([1,3,6,8,46],none)) _ ?_);refine mP rfl (fun ou => ?_) (fun ar => absurd ar (by cases ar))
   clear ou
   refine ai fun _ ov => ?_;refine aS ad ?_;refine ov _ (vr (some ([1,3,6,8],none)) _ (ae fun _ vu _ _ => ai fun _ vj => ?_));refine ag 2 ad ?_;refine aS ad ?_;refine Or.inl ?_;refine vj _ (vu (some ([3,6],none)) _ (ae fun _ C1 _ _ => ai fun _ vl => ?_));refine ag 1 ad ?_;refine ag 1 ad ?_;refine al ad ?_;refine vl _ (C1 (some ([6,7],none)) _ ?_);refine jr ad ?_;refine FU L t a m y o0 aV _ _ (fun k => ?_) (fun k => ?_) <;> first | rfl | exact (yU k).symm | exact (C8 k).symm
def rz (g : Int → Option Int) (k : Nat) (y : qN) : qN := match g (k : Int) with | some m => { y with kept := max y.kept m } | none => y
def pe (L : hz) (t : Int) : hz := { L with eX := L.eX.mapIdx (rz (iH L t)),asks := fun s => if s = t then none else L.asks s }
def tc (g : Int → Option Int) (left : Int → Bool) : Int → Option Int := fun k => if left k = true then none else g k
abbrev ac2 (L : hz) : bo := .box 57 [.au 3 0 (L.first.map c6),.own 2,.mp 3 fun t => (L.asks t).map lf]
def Z2 (L : hz) (t : Int) (k : Nat) (S : ak) : Prop :=
 ∃ left cur,(∀ j,left j = true → (iH L t j).isSome = true) ∧ S = ⟨[(1,aG t),(2,.ptr 0 0 0),(4,.ptr 1 0 0),(20,.own 3)],
  [(0,ac2 L),(1,.box 57 [.au 3 0 [],.au 2 0 [],.mp 3 fun _ => none]),(2,.row 177 2 ((L.eX.mapIdx (rz (tc (iH L t) left))).map qg)),(3,.iter (fun k => (iH L t k).map aG) left k cur)],4⟩
theorem alH (g : Int → Option Int) (left : Int → Bool) (l : List qN) (n : Nat) (y : qN) (aV : l[n]? = some y) (a9 : left (n : Int) = true) : (l.mapIdx (rz (tc g left)))[n]? = some y := by
 rw [List.getElem?_mapIdx,aV]
 simp [rz,tc,a9]
theorem alI (g : Int → Option Int) (left : Int → Bool) (l : List qN) (n : Nat) (y : qN) (m : Int) (aV : l[n]? = some y) (aJ : g (n : Int) = some m) :
  l.mapIdx (rz (tc g fun z => left z && z != (n : Int))) = (l.mapIdx (rz (tc g left))).set n { y with kept := max y.kept m } := by
 refine List.ext_getElem? fun i => ?_
 rw [List.getElem?_mapIdx,List.getElem?_set]
 by_cases e : n = i
 ·subst e
  obtain ⟨af,aj⟩ := List.getElem?_eq_some_iff.1 aV
  simp [rz,tc,aJ,af,aj]
 ·rw [if_neg e,List.getElem?_mapIdx]
  have a7 : ¬ (i : Int) = (n : Int) := by omega
  cases h : l[i]? with
  | none => rfl
  | some z => simp [rz,tc,a7,bne]
theorem Oz (L : hz) (t : Int) (B : Int → Option aw) (aj : ∀ k,B k = (L.asks k).map lf) :
  aw.bY [.agg [.au 3 0 (L.first.map c6),.au 2 0 ((L.eX.mapIdx (rz (iH L t))).map qg),.mp 3 fun j => if j = t then none else B j],aG 0] = .bY [pw (pe L t),aG 0] := by
 obtain rfl : B = fun k => (L.asks k).map lf := funext aj
 have e : (fun j => if j = t then none else (L.asks j).map lf) = fun s => (if s = t then none else L.asks s).map lf := by
  funext j
  by_cases e : j = t <;> simp [e]
 simp only [pw,pe]
 rw [← e]
theorem Xk (L : hz) (t : Int) (h : ∀ k,(L.asks k).map lf = none) : EZ (.bY [.agg [.au 3 0 (L.first.map c6),.au 2 0 ((L.eX.mapIdx (rz (iH L t))).map qg),.v (.map none)],aG 0]) (.bY [pw (pe L t),aG 0]) := by
 rw [← Oz L t (fun _ => none) (fun k => (h k).symm)]
 intro H v bj
 cases bj with
 | bY bj =>
  cases bj with
  | cons af alR =>
   cases af with
   | agg af aj =>
    cases af with
    | cons a af =>
     cases af with
     | cons b af =>
      cases af with
      | cons c af =>
       cases af
       cases c
       exact .bY (.cons (.agg (.cons a (.cons b (.cons (.nA fun i => by simp) .nil))) rfl) alR)
set_option maxHeartbeats 4000000 in
theorem ajT (L : hz) (t : Int) (fS : Bo L) (br : Ir L) (aL : 1 ≤ t ∧ t ≤ 8) : cq 92 [pw L,aG t] (.bY [pw (pe L t),aG 0]) := by
 refine T6 Tryz.func92 anH rfl ?_
 have Se := fS.many
 have Sg := fS.mZ
 have o1 : ∀ left : Int → Bool,(∀ j,left j = false) → tc (iH L t) left = iH L t := fun left h => by funext j; simp [tc,h]
 have s4 : ∀ k,(L.asks k).map lf ≠ none → 0 ≤ k ∧ k < 4096 := fun k az => by
  have := br.Xo k (fun e => az (by rw [e]; rfl))
  omega
 unfold FM WC Vu;delta ab aQ aa ay
 have ad := @PW
 refine ae fun _ aK _ _ => ai fun _ aH => ?_;refine al ad ?_;refine aH _ (aK (some ([1,2,4],none)) _ (ae fun _ aP _ _ => ae fun _ bI _ _ => ai fun _ b0 => ?_));refine aM 1 ad ?_;refine aM 1 ad ?_;refine Or.inl (Or.inl ⟨_,TX t,?_⟩);refine al ad ?_;refine b0 _ (bI (some ([1,2,4,10],none)) _ ?_);refine mP rfl (fun ar => absurd ar (by simp [aL] at ar)) (fun pH => ?_)
 clear pH
 refine aP (some ([1,2,4],none)) _ (ae fun _ bp _ _ => ai fun _ bE => ?_);refine ag 2 ad ?_;refine aM 1 ad ?_;refine Or.inl (Or.inr (Or.inl ⟨_,_,_,UE 0 _ (by simp; omega),?_⟩));refine aS ad ?_;refine bE _ (bp (some ([1,2,4],none)) _ (ae fun _ cv _ _ => ae fun _ cR _ _ => ai fun _ cK => ?_));refine ag 2 ad ?_;refine ag 2 ad ?_;refine al ad ?_
 first | refine ⟨rfl,fun BL => ?_⟩ | intro BL
 refine cK _ (cR (some ([1,2,4,20],none)) _ (cj fun _ _ rl _ _ => ?_));refine ie (Z2 L t) (BL) (some ([1,2,4,20],some ([0,1,2,3],4))) ([]) ?_ ?_
 ·try refine dR ?_
  refine ⟨fun i => (Option.map aG (iH L t i)).isSome,none,fun j h => by simpa using h,?_⟩
  have e : L.eX.mapIdx (rz (tc (iH L t) fun i => (Option.map aG (iH L t i)).isSome)) = L.eX := by
   refine List.ext_getElem? fun i => ?_
   rw [List.getElem?_mapIdx]
   cases h : L.eX[i]? with
   | none => rfl
   | some z => cases aj : iH L t i <;> simp [rz,tc,aj]
  rw [e]
 ·intro k bT aW
  obtain ⟨left,cur,Ld,rfl⟩ := aW
  intro _ ff _ kx
  refine ae fun _ dF _ _ => ai fun _ dq => ?_;refine aM 1 ad ?_;refine ⟨fun kh => ?_,fun r7 alw qX r1 kA agb agc KY => ?_⟩
  ·skip
   refine al ad ?_;refine dq _ (dF (some ([1,2,4,20,22],none)) _ (ae fun _ _ _ lo => ?_));refine mP rfl (fun ar => absurd ar (by cases ar)) (fun nh => ?_)
   clear nh
   refine lo 0 _ (kx 0 _ (rl _ (cv (some ([1,2,4],none)) _ (ae fun _ fF _ _ => ai fun _ eF => ?_))));refine ag 2 ad ?_;refine aM 1 ad ?_;refine Or.inl (Or.inr (Or.inr ⟨_,_,_,Mm _ s4,?_,fun yU => ?_⟩))
   ·skip
    refine aS ad ?_;refine eF _ (fF (some ([1,2,4],none)) _ (ae fun _ hM _ _ => ai fun _ hr => ?_));refine ag 2 ad ?_;refine aS ad ?_;refine hr _ (hM (some ([2,4],none)) _ (ae fun _ hZ _ _ => ai fun _ hh => ?_));refine ag 1 ad ?_;refine ag 1 ad ?_;refine al ad ?_;refine hh _ (hZ (some ([4,5],none)) _ ?_);refine jr ad ?_
    rw [o1 left kh]
    first
     | exact Xk L t yU
     | (rw [← Oz L t (fun k => (L.asks k).map lf) (fun k => rfl)]; exact fun _ _ h => h)
   ·skip
    refine aS ad ?_;refine eF _ (fF (some ([1,2,4],none)) _ (ae fun _ lu _ _ => ai fun _ im => ?_));refine ag 2 ad ?_;refine aS ad ?_;refine im _ (lu (some ([2,4],none)) _ (ae fun _ iP _ _ => ai fun _ gD => ?_));refine ag 1 ad ?_;refine ag 1 ad ?_;refine al ad ?_;refine gD _ (iP (some ([4,5],none)) _ ?_);refine jr ad ?_
    rw [o1 left kh]
    first
     | exact Xk L t yU
     | (rw [← Oz L t (fun k => (L.asks k).map lf) (fun k => rfl)]; exact fun _ _ h => h)
  ·skip
   obtain ⟨m,hm,rfl⟩ := Option.map_eq_some_iff.1 kA
   obtain ⟨n,y,rfl,aV,Lh,yJ⟩ := br.line t r7 m hm
   have qn := (List.getElem?_eq_some_iff.1 aV).1
   have gB := alH (iH L t) left L.eX n y aV r1
   have aD := And.intro ad @gB
   refine al aD ?_;refine dq _ (dF (some ([1,2,4,20,22],none)) _ (ae fun _ lv _ _ => ?_));refine mP rfl (fun nh => ?_) (fun ar => absurd ar (by cases ar))
   clear nh
   refine lv (some ([1,2,4,20],none)) _ (cj fun _ iQ _ _ _ => ae fun _ mv _ _ => ai fun _ hY => ?_);refine al aD ?_;refine hY _ (mv (some ([1,2,4,6,7,20],none)) _ ?_);refine gh [] (n := 11) fun _ jU => ?_;refine gY ?_;refine cF 2 aD ?_;refine cF 3 aD ?_;refine cF 2 aD ?_;refine cF 2 aD ?_;refine lh aD ?_;refine jU _ ?_;refine gZ ?_;refine ag 1 aD ?_;refine aS aD ?_;refine iQ _ ?_;refine ff (qX) (some ([1,2,4,20],some ([0,1,2,3],4))) _ ?_ ?_
   all_goals try refine dR ?_
   ·exact KY
   ·refine ⟨fun z => left z && z != (n : Int),some ((n : Int),aG m),fun j h => Ld j (by simp only [Bool.and_eq_true] at h; exact h.1),?_⟩
    rw [alI (iH L t) left L.eX n y m aV hm,List.map_set]
end Go.Proofs.YtkmbcjnaaokilaaGreatDoor
