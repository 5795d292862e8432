/-
  Layer 5 by shadows: Flush, Sync.
-/
import Derived.Test.YtkmbcjnaaokilaaGreatDoorM5b
import Derived.Test.YtkmbcjnaaokilaaGreatDoorMA
namespace Go.Proofs.YtkmbcjnaaokilaaGreatDoor
set_option linter.unusedSimpArgs false
set_option linter.unusedVariables false
open Go.RowKit Go.Maps
set_option maxRecDepth 100000 in
set_option maxHeartbeats 400000 in
theorem cloneAsk_some (b : Nat) (es : Array MapEntry) (clock : Nat) (w : World) (hb : w.heap[b]? = some (.map es clock)) :
  Calls Tryz.prog 102 #[.map (some b)] w fun e w' => e = .returned (.map (some w.heap.size)) ∧ w' = w.alloc (.map es clock) := by
 have hq := fun w => run_eql_map w 185 _ _ (some b) Tryz.underlying185
 go_enter Tryz.func102,Tryz.ntmps102
 go_wp2
 rw [run_callFunc_extern Tryz.func110 (by kernel_rfl) (by kernel_rfl) (by kernel_rfl) (e := Extern.MapsClone.clone) (by kernel_rfl),run_maps_clone_sl w 185 hb]
 simp only [Result.andThen]
 rw [Oper.upon_value]
 go_wp2
 rw [run_typeAssert_map_sl _ 185 20 _ _ _ Tryz.underlying185]
 simp only [Result.andThen]
 rw [Oper.upon_value]
 go_wp2
 go_ret
 exact ⟨rfl,rfl⟩
set_option maxRecDepth 100000 in
set_option maxHeartbeats 400000 in
theorem cloneAsk_none (w : World) :
  Calls Tryz.prog 102 #[.map none] w fun e w' => e = .returned (.map none) ∧ w' = w := by
 have hq := fun w => run_eql_map w 185 _ _ none Tryz.underlying185
 go_enter Tryz.func102,Tryz.ntmps102
 go_wp2
 go_ret
 exact ⟨rfl,rfl⟩
set_option maxRecDepth 100000 in
set_option maxHeartbeats 400000 in
theorem cloneAsks_some (b : Nat) (es : Array MapEntry) (clock : Nat) (w : World) (hb : w.heap[b]? = some (.map es clock)) :
  Calls Tryz.prog 103 #[.map (some b)] w fun e w' => e = .returned (.map (some w.heap.size)) ∧ w' = w.alloc (.map es clock) := by
 have hq := fun w => run_eql_map w 55 _ _ (some b) Tryz.underlying55
 go_enter Tryz.func103,Tryz.ntmps103
 go_wp2
 rw [run_callFunc_extern Tryz.func110 (by kernel_rfl) (by kernel_rfl) (by kernel_rfl) (e := Extern.MapsClone.clone) (by kernel_rfl),run_maps_clone_sl w 55 hb]
 simp only [Result.andThen]
 rw [Oper.upon_value]
 go_wp2
 rw [run_typeAssert_map_sl _ 55 20 _ _ _ Tryz.underlying55]
 simp only [Result.andThen]
 rw [Oper.upon_value]
 go_wp2
 go_ret
 exact ⟨rfl,rfl⟩
set_option maxRecDepth 100000 in
set_option maxHeartbeats 400000 in
theorem cloneAsks_none (w : World) :
  Calls Tryz.prog 103 #[.map none] w fun e w' => e = .returned (.map none) ∧ w' = w := by
 have hq := fun w => run_eql_map w 55 _ _ none Tryz.underlying55
 go_enter Tryz.func103,Tryz.ntmps103
 go_wp2
 go_ret
 exact ⟨rfl,rfl⟩
theorem map_cloneAsk (f : Int → Option Sh) (hf : ∀ k,f k ≠ none → 0 ≤ k ∧ k < 4096) : OkMap 102 [.mp 3 f] 3 4096 f := by
 intro w H vs hs hv
 cases hv with
 | cons hx ht =>
  cases ht
  cases hx with
  | mpn h0 =>
   refine Calls.mono (cloneAsk_none w) ?_
   rintro en w' ⟨rfl,rfl⟩
   exact ⟨_,rfl,Grow.refl hs,.inl ⟨rfl,h0⟩⟩
  | @mp _ _ _ b o M F hb hm hN hi hr =>
   obtain ⟨D,⟨es,clock,rfl,_⟩,_⟩ := hm
   refine Calls.mono (cloneAsk_some b es clock w (hs b _ hb)) ?_
   rintro en w' ⟨rfl,rfl⟩
   refine ⟨_,rfl,(Grow.refl hs).alloc _,.inr ⟨w.heap.size,_,F,rfl,Nat.le_refl _,heap_alloc_new w _,MapOf.tight (n := M) ⟨D,⟨es,clock,rfl,‹_›⟩,‹_›⟩ Tryz.underlying3 4096 (fun k hk => hf k (fun e => by rw [(hi k).1 e] at hk; cases hk)),by omega,hi,hr⟩⟩
theorem map_cloneAsks (f : Int → Option Sh) (hf : ∀ k,f k ≠ none → 0 ≤ k ∧ k < 4096) : OkMap 103 [.mp 3 f] 3 4096 f := by
 intro w H vs hs hv
 cases hv with
 | cons hx ht =>
  cases ht
  cases hx with
  | mpn h0 =>
   refine Calls.mono (cloneAsks_none w) ?_
   rintro en w' ⟨rfl,rfl⟩
   exact ⟨_,rfl,Grow.refl hs,.inl ⟨rfl,h0⟩⟩
  | @mp _ _ _ b o M F hb hm hN hi hr =>
   obtain ⟨D,⟨es,clock,rfl,_⟩,_⟩ := hm
   refine Calls.mono (cloneAsks_some b es clock w (hs b _ hb)) ?_
   rintro en w' ⟨rfl,rfl⟩
   refine ⟨_,rfl,(Grow.refl hs).alloc _,.inr ⟨w.heap.size,_,F,rfl,Nat.le_refl _,heap_alloc_new w _,MapOf.tight (n := M) ⟨D,⟨es,clock,rfl,‹_›⟩,‹_›⟩ Tryz.underlying3 4096 (fun k hk => hf k (fun e => by rw [(hi k).1 e] at hk; cases hk)),by omega,hi,hr⟩⟩
def askOf (L : LinesM) (t : Int) : Int → Option Int := (L.asks t).getD fun _ => none
structure AsksOk (L : LinesM) : Prop where
 thr : ∀ t,L.asks t ≠ none → 1 ≤ t ∧ t ≤ 8
 line : ∀ t (k : Int) m,askOf L t k = some m → ∃ (n : Nat) (y : LogV),k = (n : Int) ∧ L.logs[n]? = some y ∧ 0 ≤ m ∧ m ≤ (y.stores.length : Int)
def flushM (L : LinesM) (t a : Int) : LinesM :=
 match L.logs[a.toNat / 8]? with
 | some y => { L with asks := fun s => if s = t then some (fun k => if k = ((a.toNat / 8 : Nat) : Int) then some (y.stores.length : Int) else askOf L t k) else L.asks s }
 | none => L
theorem asksOf_lk (L : LinesM) (t : Int) : (Option.map eAsked (L.asks t)).getD (.mp 3 fun _ => none) = eAsked (askOf L t) := by
 unfold askOf; cases L.asks t <;> rfl
theorem flush_fin (L : LinesM) (t a : Int) (m : Nat) (y : LogV) (hmm : m = a.toNat / 8) (hy : L.logs[m]? = some y) (A B : Int → Option Sh) (h1 : ∀ k,A k = (askOf L t k).map sI) (h2 : ∀ k,B k = (L.asks k).map eAsked) :
  Sh.tup [.agg [.sl 3 0 (L.first.map eWord),.sl 2 0 (L.logs.map eLog),.mp 3 fun j => if j = t then some (.mp 3 fun j => if j = (m : Int) then some (sI y.stores.length) else A j) else B j],sI 0] = .tup [eLines (flushM L t a),sI 0] := by
 obtain rfl : A = fun k => (askOf L t k).map sI := funext h1
 obtain rfl : B = fun k => (L.asks k).map eAsked := funext h2
 have e : (fun j => if j = t then some (Sh.mp 3 fun j => if j = (m : Int) then some (sI y.stores.length) else (askOf L t j).map sI) else (L.asks j).map eAsked) = fun s => (if s = t then some (fun k => if k = (m : Int) then some (y.stores.length : Int) else askOf L t k) else L.asks s).map eAsked := by
  funext j
  by_cases e : j = t
  ·simp only [e,if_true,Option.map_some,eAsked]
   congr 2
   funext k
   by_cases e2 : k = (m : Int) <;> simp [e2]
  ·simp only [e,if_false]
 unfold flushM
 rw [← hmm,hy]
 simp only [eLines]
 rw [← e]
set_option maxHeartbeats 4000000 in
theorem ok_lFlush (L : LinesM) (t a : Int) (hL : LinesOk L) (hA : AsksOk L) (ht : 1 ≤ t ∧ t ≤ 8) (ha : 0 ≤ a ∧ a < (L.first.length : Int)) : Ok 91 [eLines L,sI t,sI a] (.tup [eLines (flushM L t a),sI 0]) := by
 refine ok_of_tr Tryz.func91 tr_lFlush rfl ?_
 have hmany := hL.many
 have hmost := hL.most
 obtain ⟨m,hmm⟩ : ∃ m,m = a.toNat / 8 := ⟨_,rfl⟩
 have hq : IntKind.i64.wrap (a.tdiv 8) = (m : Int) := by rw [IntKind.wrap_i64,Int.tdiv_eq_ediv_of_nonneg ha.1]; omega
 have hml : m < L.logs.length := by omega
 obtain ⟨y,hy⟩ : ∃ y,L.logs[m]? = some y := ⟨L.logs[m],by simp⟩
 have hs1 : ∀ k,(askOf L t k).map sI ≠ none → 0 ≤ k ∧ k < 4096 := fun k hk => by
  cases e : askOf L t k with
  | none => rw [e] at hk; exact absurd rfl hk
  | some v =>
   obtain ⟨n,y,rfl,h1,_⟩ := hA.line t k v e
   have := (List.getElem?_eq_some_iff.1 h1).1
   omega
 have hs2 : ∀ k,(L.asks k).map eAsked ≠ none → 0 ≤ k ∧ k < 4096 := fun k hk => by
  have := hA.thr k (fun e => hk (by rw [e]; rfl))
  omega
 unfold evFn sc_lFlush rv_lFlush
 have F1 := And.intro @asksOf_lk (And.intro @hq @hy)
 refine eS fun _ hn1 _ _ => ?_;refine eO fun _ hk2 => ?_;refine tL F1 ?_;refine hk2 _ ?_;refine hn1 (some ([1,2,3,6],none)) _ ?_;refine eS fun _ hn3 _ _ => ?_;refine eB fun _ hn4 _ _ _ => ?_;refine eS fun _ hn5 _ _ => ?_;refine eO fun _ hk6 => ?_;refine tS 1 F1 ?_;refine tS 1 F1 ?_;refine Or.inl (Or.inl ⟨_,ok_lThread t,?_⟩);refine tL F1 ?_;refine hk6 _ ?_;refine hn5 (some ([1,2,3,6,10],none)) _ ?_;refine eC rfl (fun hx => absurd hx (by simp [ht] at hx)) (fun hc0 => ?_)
 clear hc0
 refine eS fun _ hn7 _ _ => ?_;refine eO fun _ hk8 => ?_;refine tC 1 F1 ?_;refine tS 1 F1 ?_;refine tS 1 F1 ?_;refine Or.inl (Or.inl ⟨_,ok_lHas L a,?_⟩);refine tL F1 ?_;refine hk8 _ ?_;refine hn7 (some ([1,2,3,6,15],none)) _ ?_;refine eC rfl (fun hx => absurd hx (by simp [ha] at hx)) (fun hc1 => ?_)
 clear hc1
 refine hn4 _ ?_;refine hn3 (some ([1,2,3,6],none)) _ ?_;refine eS fun _ hn9 _ _ => ?_;refine eO fun _ hk10 => ?_;refine tC 2 F1 ?_;refine tC 2 F1 ?_;refine tS 1 F1 ?_;refine Or.inl (Or.inr (Or.inr ⟨_,_,_,map_cloneAsk _ hs1,?_,fun hnil2 => ?_⟩))
 ·skip
  refine tL F1 ?_;refine hk10 _ ?_;refine hn9 (some ([1,2,3,6,8],none)) _ ?_;refine eS fun _ hn11 _ _ => ?_;refine eS fun _ hn12 _ _ => ?_;refine eO fun _ hk13 => ?_;refine tS 1 F1 ?_;refine tL F1 ?_;refine Or.inr ⟨⟨_,_,Tryz.underlying185⟩,?_⟩;refine hk13 _ ?_;refine hn12 (some ([1,2,3,6,8,27],none)) _ ?_;refine eC rfl (fun hx => absurd hx (by cases hx)) (fun hc2 => ?_)
  clear hc2
  refine hn11 (some ([1,2,3,6,8],none)) _ ?_;refine eS fun _ hn14 _ _ => ?_;refine eO fun _ hk15 => ?_;refine tC 2 F1 ?_;refine tL F1 ?_;refine hk15 _ ?_;refine hn14 (some ([1,3,6,8,9],none)) _ ?_;refine eS fun _ hn16 _ _ => ?_;refine eO fun _ hk17 => ?_;refine tC 4 F1 ?_;refine tC 2 F1 ?_;refine tC 2 F1 ?_;refine tZ F1 ?_;refine Or.inl ?_;refine hk17 _ ?_;refine hn16 (some ([1,3,6,8],none)) _ ?_;refine eS fun _ hn18 _ _ => ?_;refine eO fun _ hk19 => ?_;refine tC 2 F1 ?_;refine tS 1 F1 ?_;refine Or.inl (Or.inr (Or.inr ⟨_,_,_,map_cloneAsks _ hs2,?_,fun hnil3 => ?_⟩))
  ·skip
   refine tZ F1 ?_;refine hk19 _ ?_;refine hn18 (some ([1,3,6,8],none)) _ ?_;refine eS fun _ hn20 _ _ => ?_;refine eS fun _ hn21 _ _ => ?_;refine eO fun _ hk22 => ?_;refine tC 2 F1 ?_;refine tL F1 ?_;refine Or.inr ⟨⟨_,_,Tryz.underlying55⟩,?_⟩;refine hk22 _ ?_;refine hn21 (some ([1,3,6,8,46],none)) _ ?_;refine eC rfl (fun hx => absurd hx (by cases hx)) (fun hc3 => ?_)
   clear hc3
   refine hn20 (some ([1,3,6,8],none)) _ ?_;refine eS fun _ hn23 _ _ => ?_;refine eO fun _ hk24 => ?_;refine tC 2 F1 ?_;refine tZ F1 ?_;refine Or.inl ?_;refine hk24 _ ?_;refine hn23 (some ([3,6],none)) _ ?_;refine eS fun _ hn25 _ _ => ?_;refine eO fun _ hk26 => ?_;refine tC 1 F1 ?_;refine tC 1 F1 ?_;refine tL F1 ?_;refine hk26 _ ?_;refine hn25 (some ([6,7],none)) _ ?_;refine sg1 F1 ?_;refine flush_fin L t a m y hmm hy _ _ (fun k => ?_) (fun k => ?_) <;> first | rfl | exact (hnil2 k).symm | exact (hnil3 k).symm
  ·skip
   refine tZ F1 ?_;refine hk19 _ ?_;refine hn18 (some ([1,3,6,8],none)) _ ?_;refine eS fun _ hn27 _ _ => ?_;refine eS fun _ hn28 _ _ => ?_;refine eO fun _ hk29 => ?_;refine tC 2 F1 ?_;refine tL F1 ?_;refine Or.inl ⟨_,eqsh_nil Tryz.underlying55,?_⟩;refine hk29 _ ?_;refine hn28 (some ([1,3,6,8,46],none)) _ ?_;refine eC rfl (fun hc3 => ?_) (fun hx => absurd hx (by cases hx))
   clear hc3
   refine eO fun _ hk30 => ?_;refine tZ F1 ?_;refine hk30 _ ?_;refine hn27 (some ([1,3,6,8],none)) _ ?_;refine eS fun _ hn31 _ _ => ?_;refine eO fun _ hk32 => ?_;refine tC 2 F1 ?_;refine tZ F1 ?_;refine Or.inl ?_;refine hk32 _ ?_;refine hn31 (some ([3,6],none)) _ ?_;refine eS fun _ hn33 _ _ => ?_;refine eO fun _ hk34 => ?_;refine tC 1 F1 ?_;refine tC 1 F1 ?_;refine tL F1 ?_;refine hk34 _ ?_;refine hn33 (some ([6,7],none)) _ ?_;refine sg1 F1 ?_;refine flush_fin L t a m y hmm hy _ _ (fun k => ?_) (fun k => ?_) <;> first | rfl | exact (hnil2 k).symm | exact (hnil3 k).symm
 ·skip
  refine tL F1 ?_;refine hk10 _ ?_;refine hn9 (some ([1,2,3,6,8],none)) _ ?_;refine eS fun _ hn35 _ _ => ?_;refine eS fun _ hn36 _ _ => ?_;refine eO fun _ hk37 => ?_;refine tS 1 F1 ?_;refine tL F1 ?_;refine Or.inl ⟨_,eqsh_nil Tryz.underlying185,?_⟩;refine hk37 _ ?_;refine hn36 (some ([1,2,3,6,8,27],none)) _ ?_;refine eC rfl (fun hc2 => ?_) (fun hx => absurd hx (by cases hx))
  clear hc2
  refine eO fun _ hk38 => ?_;refine tL F1 ?_;refine hk38 _ ?_;refine hn35 (some ([1,2,3,6,8],none)) _ ?_;refine eS fun _ hn39 _ _ => ?_;refine eO fun _ hk40 => ?_;refine tC 2 F1 ?_;refine tL F1 ?_;refine hk40 _ ?_;refine hn39 (some ([1,3,6,8,9],none)) _ ?_;refine eS fun _ hn41 _ _ => ?_;refine eO fun _ hk42 => ?_;refine tC 4 F1 ?_;refine tC 2 F1 ?_;refine tC 2 F1 ?_;refine tZ F1 ?_;refine Or.inl ?_;refine hk42 _ ?_;refine hn41 (some ([1,3,6,8],none)) _ ?_;refine eS fun _ hn43 _ _ => ?_;refine eO fun _ hk44 => ?_;refine tC 2 F1 ?_;refine tS 1 F1 ?_;refine Or.inl (Or.inr (Or.inr ⟨_,_,_,map_cloneAsks _ hs2,?_,fun hnil3 => ?_⟩))
  ·skip
   refine tZ F1 ?_;refine hk44 _ ?_;refine hn43 (some ([1,3,6,8],none)) _ ?_;refine eS fun _ hn45 _ _ => ?_;refine eS fun _ hn46 _ _ => ?_;refine eO fun _ hk47 => ?_;refine tC 2 F1 ?_;refine tL F1 ?_;refine Or.inr ⟨⟨_,_,Tryz.underlying55⟩,?_⟩;refine hk47 _ ?_;refine hn46 (some ([1,3,6,8,46],none)) _ ?_;refine eC rfl (fun hx => absurd hx (by cases hx)) (fun hc3 => ?_)
   clear hc3
   refine hn45 (some ([1,3,6,8],none)) _ ?_;refine eS fun _ hn48 _ _ => ?_;refine eO fun _ hk49 => ?_;refine tC 2 F1 ?_;refine tZ F1 ?_;refine Or.inl ?_;refine hk49 _ ?_;refine hn48 (some ([3,6],none)) _ ?_;refine eS fun _ hn50 _ _ => ?_;refine eO fun _ hk51 => ?_;refine tC 1 F1 ?_;refine tC 1 F1 ?_;refine tL F1 ?_;refine hk51 _ ?_;refine hn50 (some ([6,7],none)) _ ?_;refine sg1 F1 ?_;refine flush_fin L t a m y hmm hy _ _ (fun k => ?_) (fun k => ?_) <;> first | rfl | exact (hnil2 k).symm | exact (hnil3 k).symm
  ·skip
   refine tZ F1 ?_;refine hk44 _ ?_;refine hn43 (some ([1,3,6,8],none)) _ ?_;refine eS fun _ hn52 _ _ => ?_;refine eS fun _ hn53 _ _ => ?_;refine eO fun _ hk54 => ?_;refine tC 2 F1 ?_;refine tL F1 ?_;refine Or.inl ⟨_,eqsh_nil Tryz.underlying55,?_⟩;refine hk54 _ ?_;refine hn53 (some ([1,3,6,8,46],none)) _ ?_;refine eC rfl (fun hc3 => ?_) (fun hx => absurd hx (by cases hx))
   clear hc3
   refine eO fun _ hk55 => ?_;refine tZ F1 ?_;refine hk55 _ ?_;refine hn52 (some ([1,3,6,8],none)) _ ?_;refine eS fun _ hn56 _ _ => ?_;refine eO fun _ hk57 => ?_;refine tC 2 F1 ?_;refine tZ F1 ?_;refine Or.inl ?_;refine hk57 _ ?_;refine hn56 (some ([3,6],none)) _ ?_;refine eS fun _ hn58 _ _ => ?_;refine eO fun _ hk59 => ?_;refine tC 1 F1 ?_;refine tC 1 F1 ?_;refine tL F1 ?_;refine hk59 _ ?_;refine hn58 (some ([6,7],none)) _ ?_;refine sg1 F1 ?_;refine flush_fin L t a m y hmm hy _ _ (fun k => ?_) (fun k => ?_) <;> first | rfl | exact (hnil2 k).symm | exact (hnil3 k).symm
def syncLog (g : Int → Option Int) (k : Nat) (y : LogV) : LogV := match g (k : Int) with | some m => { y with kept := max y.kept m } | none => y
def syncM (L : LinesM) (t : Int) : LinesM := { L with logs := L.logs.mapIdx (syncLog (askOf L t)),asks := fun s => if s = t then none else L.asks s }
def leftG (g : Int → Option Int) (left : Int → Bool) : Int → Option Int := fun k => if left k = true then none else g k
abbrev boxS (L : LinesM) : Ob := .box 57 [.sl 3 0 (L.first.map eWord),.own 2,.mp 3 fun t => (L.asks t).map eAsked]
def SInv (L : LinesM) (t : Int) (k : Nat) (S : St) : Prop :=
 ∃ left cur,(∀ j,left j = true → (askOf L t j).isSome = true) ∧ S = ⟨[(1,sI t),(2,.ptr 0 0 0),(4,.ptr 1 0 0),(20,.own 3)],
  [(0,boxS L),(1,.box 57 [.sl 3 0 [],.sl 2 0 [],.mp 3 fun _ => none]),(2,.row 177 2 ((L.logs.mapIdx (syncLog (leftG (askOf L t) left))).map eLog)),(3,.iter (fun k => (askOf L t k).map sI) left k cur)],4⟩
theorem sync_get (g : Int → Option Int) (left : Int → Bool) (l : List LogV) (n : Nat) (y : LogV) (hy : l[n]? = some y) (hn : left (n : Int) = true) : (l.mapIdx (syncLog (leftG g left)))[n]? = some y := by
 rw [List.getElem?_mapIdx,hy]
 simp [syncLog,leftG,hn]
theorem sync_step (g : Int → Option Int) (left : Int → Bool) (l : List LogV) (n : Nat) (y : LogV) (m : Int) (hy : l[n]? = some y) (hg : g (n : Int) = some m) :
  l.mapIdx (syncLog (leftG g fun z => left z && z != (n : Int))) = (l.mapIdx (syncLog (leftG g left))).set n { y with kept := max y.kept m } := by
 refine List.ext_getElem? fun i => ?_
 rw [List.getElem?_mapIdx,List.getElem?_set]
 by_cases e : n = i
 ·subst e
  obtain ⟨h1,h2⟩ := List.getElem?_eq_some_iff.1 hy
  simp [syncLog,leftG,hg,h1,h2]
 ·rw [if_neg e,List.getElem?_mapIdx]
  have e2 : ¬ (i : Int) = (n : Int) := by omega
  cases h : l[i]? with
  | none => rfl
  | some z => simp [syncLog,leftG,e2,bne]
theorem sync_fin (L : LinesM) (t : Int) (B : Int → Option Sh) (h2 : ∀ k,B k = (L.asks k).map eAsked) :
  Sh.tup [.agg [.sl 3 0 (L.first.map eWord),.sl 2 0 ((L.logs.mapIdx (syncLog (askOf L t))).map eLog),.mp 3 fun j => if j = t then none else B j],sI 0] = .tup [eLines (syncM L t),sI 0] := by
 obtain rfl : B = fun k => (L.asks k).map eAsked := funext h2
 have e : (fun j => if j = t then none else (L.asks j).map eAsked) = fun s => (if s = t then none else L.asks s).map eAsked := by
  funext j
  by_cases e : j = t <;> simp [e]
 simp only [eLines,syncM]
 rw [← e]
theorem sync_nil (L : LinesM) (t : Int) (h : ∀ k,(L.asks k).map eAsked = none) : RepLe (.tup [.agg [.sl 3 0 (L.first.map eWord),.sl 2 0 ((L.logs.mapIdx (syncLog (askOf L t))).map eLog),.v (.map none)],sI 0]) (.tup [eLines (syncM L t),sI 0]) := by
 rw [← sync_fin L t (fun _ => none) (fun k => (h k).symm)]
 intro H v hv
 cases hv with
 | tup hv =>
  cases hv with
  | cons h1 tl =>
   cases h1 with
   | agg h1 h2 =>
    cases h1 with
    | cons a h1 =>
     cases h1 with
     | cons b h1 =>
      cases h1 with
      | cons c h1 =>
       cases h1
       cases c
       exact .tup (.cons (.agg (.cons a (.cons b (.cons (.mpn fun i => by simp) .nil))) rfl) tl)
set_option maxHeartbeats 4000000 in
theorem ok_lSync (L : LinesM) (t : Int) (hL : LinesOk L) (hA : AsksOk L) (ht : 1 ≤ t ∧ t ≤ 8) : Ok 92 [eLines L,sI t] (.tup [eLines (syncM L t),sI 0]) := by
 refine ok_of_tr2 Tryz.func92 tr_lSync rfl ?_
 have hmany := hL.many
 have hmost := hL.most
 have hnone : ∀ left : Int → Bool,(∀ j,left j = false) → leftG (askOf L t) left = askOf L t := fun left h => by funext j; simp [leftG,h]
 have hs2 : ∀ k,(L.asks k).map eAsked ≠ none → 0 ≤ k ∧ k < 4096 := fun k hk => by
  have := hA.thr k (fun e => hk (by rw [e]; rfl))
  omega
 unfold evFn2 sc_lSync rv_lSync
 have F1 := @asksOf_lk
 refine eS fun _ hn1 _ _ => ?_;refine eO fun _ hk2 => ?_;refine tL F1 ?_;refine hk2 _ ?_;refine hn1 (some ([1,2,4],none)) _ ?_;refine eS fun _ hn3 _ _ => ?_;refine eS fun _ hn4 _ _ => ?_;refine eO fun _ hk5 => ?_;refine tS 1 F1 ?_;refine tS 1 F1 ?_;refine Or.inl (Or.inl ⟨_,ok_lThread t,?_⟩);refine tL F1 ?_;refine hk5 _ ?_;refine hn4 (some ([1,2,4,10],none)) _ ?_;refine eC rfl (fun hx => absurd hx (by simp [ht] at hx)) (fun hc0 => ?_)
 clear hc0
 refine hn3 (some ([1,2,4],none)) _ ?_;refine eS fun _ hn6 _ _ => ?_;refine eO fun _ hk7 => ?_;refine tC 2 F1 ?_;refine tS 1 F1 ?_;refine Or.inl (Or.inr (Or.inl ⟨_,_,_,row_cloneLog 0 _ (by simp; omega),?_⟩));refine tZ F1 ?_;refine hk7 _ ?_;refine hn6 (some ([1,2,4],none)) _ ?_;refine eS fun _ hn8 _ _ => ?_;refine eS fun _ hn9 _ _ => ?_;refine eO fun _ hk10 => ?_;refine tC 2 F1 ?_;refine tC 2 F1 ?_;refine tL F1 ?_
 first | refine ⟨rfl,fun cnt0 => ?_⟩ | intro cnt0
 refine hk10 _ ?_;refine hn9 (some ([1,2,4,20],none)) _ ?_;refine eB fun _ _ hx11 _ _ => ?_;refine eW (SInv L t) (cnt0) (some ([1,2,4,20],some ([0,1,2,3],4))) ([]) ?_ ?_
 ·try refine lp0 ?_
  refine ⟨fun i => (Option.map sI (askOf L t i)).isSome,none,fun j h => by simpa using h,?_⟩
  have e : L.logs.mapIdx (syncLog (leftG (askOf L t) fun i => (Option.map sI (askOf L t i)).isSome)) = L.logs := by
   refine List.ext_getElem? fun i => ?_
   rw [List.getElem?_mapIdx]
   cases h : L.logs[i]? with
   | none => rfl
   | some z => cases h2 : askOf L t i <;> simp [syncLog,leftG,h2]
  rw [e]
 ·intro k S1 hI
  obtain ⟨left,cur,hleft,rfl⟩ := hI
  intro _ hn12 _ he12
  refine eS fun _ hn13 _ _ => ?_;refine eO fun _ hk14 => ?_;refine tS 1 F1 ?_;refine ⟨fun hno => ?_,fun jj sj cj hj1 hj2 hj3 hj4 hj5 => ?_⟩
  ·skip
   refine tL F1 ?_;refine hk14 _ ?_;refine hn13 (some ([1,2,4,20,22],none)) _ ?_;refine eS fun _ _ _ he15 => ?_;refine eC rfl (fun hx => absurd hx (by cases hx)) (fun hc1 => ?_)
   clear hc1
   refine he15 0 _ ?_;refine he12 0 _ ?_;refine hx11 _ ?_;refine hn8 (some ([1,2,4],none)) _ ?_;refine eS fun _ hn16 _ _ => ?_;refine eO fun _ hk17 => ?_;refine tC 2 F1 ?_;refine tS 1 F1 ?_;refine Or.inl (Or.inr (Or.inr ⟨_,_,_,map_cloneAsks _ hs2,?_,fun hnil2 => ?_⟩))
   ·skip
    refine tZ F1 ?_;refine hk17 _ ?_;refine hn16 (some ([1,2,4],none)) _ ?_;refine eS fun _ hn18 _ _ => ?_;refine eO fun _ hk19 => ?_;refine tC 2 F1 ?_;refine tZ F1 ?_;refine hk19 _ ?_;refine hn18 (some ([2,4],none)) _ ?_;refine eS fun _ hn20 _ _ => ?_;refine eO fun _ hk21 => ?_;refine tC 1 F1 ?_;refine tC 1 F1 ?_;refine tL F1 ?_;refine hk21 _ ?_;refine hn20 (some ([4,5],none)) _ ?_;refine sg1 F1 ?_
    rw [hnone left hno]
    first
     | exact sync_nil L t hnil2
     | (rw [← sync_fin L t (fun k => (L.asks k).map eAsked) (fun k => rfl)]; exact fun _ _ h => h)
   ·skip
    refine tZ F1 ?_;refine hk17 _ ?_;refine hn16 (some ([1,2,4],none)) _ ?_;refine eS fun _ hn22 _ _ => ?_;refine eO fun _ hk23 => ?_;refine tC 2 F1 ?_;refine tZ F1 ?_;refine hk23 _ ?_;refine hn22 (some ([2,4],none)) _ ?_;refine eS fun _ hn24 _ _ => ?_;refine eO fun _ hk25 => ?_;refine tC 1 F1 ?_;refine tC 1 F1 ?_;refine tL F1 ?_;refine hk25 _ ?_;refine hn24 (some ([4,5],none)) _ ?_;refine sg1 F1 ?_
    rw [hnone left hno]
    first
     | exact sync_nil L t hnil2
     | (rw [← sync_fin L t (fun k => (L.asks k).map eAsked) (fun k => rfl)]; exact fun _ _ h => h)
  ·skip
   obtain ⟨m,hm,rfl⟩ := Option.map_eq_some_iff.1 hj2
   obtain ⟨n,y,rfl,hy,hm1,hm2⟩ := hA.line t jj m hm
   have hnl := (List.getElem?_eq_some_iff.1 hy).1
   have hget := sync_get (askOf L t) left L.logs n y hy hj1
   have F2 := And.intro F1 @hget
   refine tL F2 ?_;refine hk14 _ ?_;refine hn13 (some ([1,2,4,20,22],none)) _ ?_;refine eS fun _ hn26 _ _ => ?_;refine eC rfl (fun hc1 => ?_) (fun hx => absurd hx (by cases hx))
   clear hc1
   refine hn26 (some ([1,2,4,20],none)) _ ?_;refine eB fun _ hn27 _ _ _ => ?_;refine eS fun _ hn28 _ _ => ?_;refine eO fun _ hk29 => ?_;refine tL F2 ?_;refine hk29 _ ?_;refine hn28 (some ([1,2,4,6,7,20],none)) _ ?_;refine eD [] (n := 11) fun _ hk30 => ?_;refine sq0 ?_;refine fC 2 F2 ?_;refine fC 3 F2 ?_;refine fC 2 F2 ?_;refine fC 2 F2 ?_;refine fL F2 ?_;refine hk30 _ ?_;refine sr0 ?_;refine tC 1 F2 ?_;refine tZ F2 ?_;refine hn27 _ ?_;refine hn12 (cj) (some ([1,2,4,20],some ([0,1,2,3],4))) _ ?_ ?_
   all_goals try refine lp0 ?_
   ·exact hj5
   ·refine ⟨fun z => left z && z != (n : Int),some ((n : Int),sI m),fun j h => hleft j (by simp only [Bool.and_eq_true] at h; exact h.1),?_⟩
    rw [sync_step (askOf L t) left L.logs n y m hy hm,List.map_set]
end Go.Proofs.YtkmbcjnaaokilaaGreatDoor
