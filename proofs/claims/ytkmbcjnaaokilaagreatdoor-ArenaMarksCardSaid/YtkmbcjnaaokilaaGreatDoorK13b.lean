/-
  Layer 13 by shadows: the words that a layout starts with.
-/
import Derived.Test.YtkmbcjnaaokilaaGreatDoorK11
import Derived.Test.YtkmbcjnaaokilaaGreatDoorMC
namespace Go.Proofs.YtkmbcjnaaokilaaGreatDoor
set_option linter.unusedSimpArgs false
set_option linter.unusedVariables false
open Go.RowKit Go.Maps
def putV (ws : List WordV) (k : Nat) (v : Int) : List WordV := ws.set k { (ws[k]?.getD ⟨0,0,0⟩) with val := v }
theorem putV_len (ws : List WordV) (k : Nat) (v : Int) : (putV ws k v).length = ws.length := by unfold putV; simp
theorem putV_map {ws : List WordV} {k : Nat} {v : Int} {w : WordV} (h : ws[k]? = some w) : (putV ws k v).map eWord = (ws.map eWord).set k [sI v,sU w.ver,sU w.ref] := by
 unfold putV; rw [h,List.map_set]; rfl
def slotsV (l : LayV) (p : Nat) (ws : List WordV) : Nat → List WordV
 | 0 => ws
 | i + 1 => putV (slotsV l p ws i) (atL l p i 0).toNat 2
theorem slotsV_len (l : LayV) (p : Nat) (ws : List WordV) : ∀ i,(slotsV l p ws i).length = ws.length
 | 0 => rfl
 | i + 1 => by show (putV _ _ _).length = _; rw [putV_len,slotsV_len l p ws i]
def firstM (l : LayV) : List WordV := slotsV l 6 (slotsV l 4 (putV (List.replicate (fromL l 7).toNat ⟨0,0,0⟩) (atL l 0 0 1).toNat 1) l.threads.toNat) l.blocks.toNat
theorem from_mono {l : LayV} (h : RangeL l) : ∀ p q,fromL l p ≤ fromL l (p + q)
 | _,0 => Int.le_refl _
 | p,q + 1 => by
  have h1 := from_mono h p q
  have h2 := (long_le h (p + q)).1
  have : fromL l (p + (q + 1)) = fromL l (p + q) + longL l (p + q) := rfl
  omega
theorem at_lt {l : LayV} (h : checkL l = 0) {p : Nat} (hp : p < 7) {i more : Int} (hi : 0 ≤ i ∧ i < manyL l p) (hm : 0 ≤ more ∧ more < sizeL p) : 0 ≤ atL l p i more ∧ atL l p i more < fromL l 7 := by
 obtain ⟨hr,_⟩ := checkL_zero h
 have e : atL l p i more = fromL l p + i * sizeL p + more := by unfold atL; rw [if_pos ⟨h,hi.1,hi.2⟩]
 rw [e]
 have h1 := (from_le hr p).1
 have h2 : fromL l (p + 1) ≤ fromL l 7 := by
  have := from_mono hr (p + 1) (6 - p)
  rwa [show p + 1 + (6 - p) = 7 by omega] at this
 have h3 : fromL l (p + 1) = fromL l p + longL l p := rfl
 have h4 : 0 ≤ i * sizeL p := Int.mul_nonneg hi.1 (size_le p).1
 have h5 : (i + 1) * sizeL p ≤ manyL l p * sizeL p := Int.mul_le_mul_of_nonneg_right (by omega) (size_le p).1
 rw [Int.add_mul,Int.one_mul] at h5
 have h6 : manyL l p * sizeL p ≤ longL l p := by
  unfold longL
  rw [if_neg (by omega)]
  omega
 omega
def FsInv (l : LayV) (ws : List WordV) (k : Nat) (S : St) : Prop :=
 ∃ i : Nat,(i : Int) ≤ l.threads ∧ k = l.threads.toNat - i ∧ S = ⟨[(1,.ptr 0 0 0),(3,.own 1),(4,sI ((i : Int) + 1))],[(0,.box 25 (eLay l)),(1,.row 79 3 ((slotsV l 4 ws i).map eWord))],2⟩
def FbInv (l : LayV) (ws : List WordV) (k : Nat) (S : St) : Prop :=
 ∃ i : Nat,(i : Int) ≤ l.blocks ∧ k = l.blocks.toNat - i ∧ S = ⟨[(1,.ptr 0 0 0),(3,.own 1),(30,sI l.blocks),(31,sI (i : Int))],[(0,.box 25 (eLay l)),(1,.row 79 3 ((slotsV l 6 ws i).map eWord))],2⟩
set_option maxHeartbeats 4000000 in
theorem ok_layFirst (l : LayV) (h : checkL l = 0) : Ok 10 [.agg (eLay l)] (.sl 3 0 ((firstM l).map eWord)) := by
 refine ok_of_tr Tryz.func10 tr_layFirst rfl ?_
 obtain ⟨hr,h7⟩ := checkL_zero h
 obtain ⟨⟨t1,t2⟩,_,b1,b2⟩ := hr
 have k0 := ok_layRight l
 rw [h] at k0
 have k1 := ok_laySize l
 unfold sizeofL at k1
 rw [if_pos h] at k1
 have k2 := ok_layEra l
 have hN0 := (from_le (checkL_zero h).1 7).1
 obtain ⟨a1,a2⟩ := at_lt h (p := 0) (by omega) (i := 0) (more := 1) ⟨by omega,by show (0 : Int) < 1; omega⟩ ⟨by omega,by show (1 : Int) < 8; omega⟩
 unfold firstM
 obtain ⟨N,hN⟩ : ∃ N : Nat,fromL l 7 = (N : Int) := ⟨_,(Int.toNat_of_nonneg hN0).symm⟩
 obtain ⟨a,ha⟩ : ∃ a : Nat,atL l 0 0 1 = (a : Int) := ⟨_,(Int.toNat_of_nonneg a1).symm⟩
 have k3 : ∀ i : Nat,(i : Int) < l.threads → ∃ b : Nat,b < N ∧ atL l 4 i 0 = (b : Int) ∧ Ok 32 [.agg (eLay l),sI ((i : Int) + 1)] (sI b) := fun i hi => by
  obtain ⟨c1,c2⟩ := at_lt h (p := 4) (by omega) (i := i) (more := 0) ⟨by omega,hi⟩ ⟨by omega,by show (0 : Int) < 104; omega⟩
  have e : ((atL l 4 i 0).toNat : Int) = atL l 4 i 0 := Int.toNat_of_nonneg c1
  refine ⟨(atL l 4 i 0).toNat,by omega,e.symm,?_⟩
  have := ok_laySlot l ((i : Int) + 1)
  rwa [show IntKind.i64.wrap ((i : Int) + 1 - 1) = (i : Int) by rw [IntKind.wrap_i64]; omega,← e] at this
 have k4 : ∀ i : Nat,(i : Int) < l.blocks → ∃ b : Nat,b < N ∧ atL l 6 i 0 = (b : Int) ∧ Ok 33 [.agg (eLay l),sI (i : Int)] (sI b) := fun i hi => by
  obtain ⟨c1,c2⟩ := at_lt h (p := 6) (by omega) (i := i) (more := 0) ⟨by omega,hi⟩ ⟨by omega,by show (0 : Int) < 32; omega⟩
  have e : ((atL l 6 i 0).toNat : Int) = atL l 6 i 0 := Int.toNat_of_nonneg c1
  refine ⟨(atL l 6 i 0).toNat,by omega,e.symm,?_⟩
  have := ok_layBlock l (i : Int)
  rwa [← e] at this
 rw [hN] at k1 a2 h7
 rw [ha] at k2 a2
 rw [hN,ha]
 simp only [Int.toNat_natCast]
 have aN : a < N := by omega
 have aN' : (a : Int) < (N : Int) := by omega
 have q1 : N ≤ 4096 := by omega
 have q2 : N * 16 ≤ 140737488355328 := by omega
 have q3 : N * 3 ≤ 140737488355328 := by omega
 have e0 : a * 3 / 3 = a := by omega
 have r1 : (List.replicate N [sI 0,sU 0,sU 0])[a]? = some [sI 0,sU 0,sU 0] := by rw [List.getElem?_replicate,if_pos aN]
 have r2 : (List.replicate N [sI 0,sU 0,sU 0]).set a [sI 1,sU 0,sU 0] = (putV (List.replicate N ⟨0,0,0⟩) a 1).map eWord := by
  rw [putV_map (w := ⟨0,0,0⟩) (by rw [List.getElem?_replicate,if_pos aN]),List.map_replicate]
 have hl : (putV (List.replicate N ⟨0,0,0⟩) a 1).length = N := by rw [putV_len]; simp
 generalize putV (List.replicate N ⟨0,0,0⟩) a 1 = ws at r2 hl ⊢
 unfold evFn sc_layFirst rv_layFirst
 have F1 := And.intro @aN (And.intro @aN' (And.intro @q1 (And.intro @q2 (And.intro @q3 (And.intro @r1 (And.intro @r2 @e0))))))
 refine eS fun _ hn1 _ _ => ?_;refine eO fun _ hk2 => ?_;refine tL F1 ?_;refine hk2 _ ?_;refine hn1 (some ([1],none)) _ ?_;refine eS fun _ hn3 _ _ => ?_;refine eS fun _ hn4 _ _ => ?_;refine eO fun _ hk5 => ?_;refine tC 1 F1 ?_;refine tS 1 F1 ?_;refine Or.inl (Or.inl ⟨_,k0,?_⟩);refine tL F1 ?_;refine hk5 _ ?_;refine hn4 (some ([1,8],none)) _ ?_;refine eCf ?_;refine hn3 (some ([1],none)) _ ?_;refine eS fun _ hn6 _ _ => ?_;refine eO fun _ hk7 => ?_;refine tC 1 F1 ?_;refine tS 1 F1 ?_;refine Or.inl (Or.inl ⟨_,k1,?_⟩);refine tC 1 F1 ?_;refine tL F1 ?_;refine hk7 _ ?_;refine hn6 (some ([1,3],none)) _ ?_;refine eS fun _ hn8 _ _ => ?_;refine eO fun _ hk9 => ?_;refine tC 2 F1 ?_;refine tS 1 F1 ?_;refine Or.inl (Or.inl ⟨_,k2,?_⟩);refine tC 1 F1 ?_;refine tZ F1 ?_;refine hk9 _ ?_;refine hn8 (some ([1,3],none)) _ ?_;refine eS fun _ hn10 _ _ => ?_;refine eS fun _ hn11 _ _ => ?_;refine eO fun _ hk12 => ?_
 refine tL F1 ?_;refine hk12 _ ?_;refine hn11 (some ([1,3,4],none)) _ ?_;refine eB fun _ _ hx13 _ _ => ?_;refine eW (FsInv l ws) (l.threads.toNat) (some ([1,3,4],some ([0,1],2))) ([]) ?_ ?_
 ·try refine lp0 ?_
  exact ⟨0,by omega,by omega,by rfl⟩
 ·intro k S1 hI
  obtain ⟨i,hi,rfl,rfl⟩ := hI
  have hcase : (i : Int) = l.threads ∨ (i : Int) < l.threads := by omega
  intro _ hn14 _ he14
  rcases hcase with hcc | hcc
  ·skip
   obtain rfl : i = l.threads.toNat := by omega
   have w2 : ¬ (l.threads.toNat : Int) + 1 ≤ l.threads := by omega
   have F2 := And.intro F1 @w2
   refine eS fun _ _ _ he15 => ?_;refine eS fun _ hn16 _ _ => ?_;refine eO fun _ hk17 => ?_;refine tC 3 F2 ?_;refine tZ F2 ?_;refine hk17 _ ?_;refine hn16 (some ([1,3,4,20],none)) _ ?_;refine eCf ?_;refine he15 0 _ ?_;refine he14 0 _ ?_;refine hx13 _ ?_;refine hn10 (some ([1,3],none)) _ ?_;refine eS fun _ hn18 _ _ => ?_;refine eS fun _ hn19 _ _ => ?_;refine eO fun _ hk20 => ?_;refine tC 2 F2 ?_;refine tL F2 ?_;refine hk20 _ ?_;refine hn19 (some ([1,3,30,31],none)) _ ?_;refine eB fun _ _ hx21 _ _ => ?_;refine eW (FbInv l (slotsV l 4 ws l.threads.toNat)) (l.blocks.toNat) (some ([1,3,30,31],some ([0,1],2))) ([]) ?_ ?_
   ·try refine lp0 ?_
    exact ⟨0,by omega,by omega,by rfl⟩
   ·intro k S1 hI
    obtain ⟨j,hj,rfl,rfl⟩ := hI
    have hcas2 : (j : Int) = l.blocks ∨ (j : Int) < l.blocks := by omega
    intro _ hn22 _ he22
    rcases hcas2 with hcd | hcd
    ·skip
     obtain rfl : j = l.blocks.toNat := by omega
     have v2 : ¬ (l.blocks.toNat : Int) < l.blocks := by omega
     have F3 := And.intro F2 @v2
     refine eS fun _ hn23 _ _ => ?_;refine eO fun _ hk24 => ?_;refine tZ F3 ?_;refine hk24 _ ?_;refine hn23 (some ([1,3,30,31,32],none)) _ ?_;refine eS fun _ _ _ he25 => ?_;refine eCf ?_;refine he25 2 _ ?_;refine he22 2 _ ?_;refine hx21 _ ?_;refine hn18 (some ([3],none)) _ ?_;refine eS fun _ hn26 _ _ => ?_;refine eO fun _ hk27 => ?_;refine tL F3 ?_;refine hk27 _ ?_;refine hn26 (some ([2],none)) _ ?_
     exact sf1 F3
    ·skip
     have v3 : IntKind.i64.wrap ((j : Int) + 1) = ((j + 1 : Nat) : Int) := by rw [IntKind.wrap_i64]; omega
     obtain ⟨b,hb,hbe,kb⟩ := k4 j hcd
     have v4 : (slotsV l 6 (slotsV l 4 ws l.threads.toNat) j).length = N := by rw [slotsV_len,slotsV_len,hl]
     obtain ⟨w,hw⟩ : ∃ w,(slotsV l 6 (slotsV l 4 ws l.threads.toNat) j)[b]? = some w := ⟨_,List.getElem?_eq_getElem (by omega)⟩
     have v5 : ((slotsV l 6 (slotsV l 4 ws l.threads.toNat) j).map eWord)[b]? = some (eWord w) := by rw [List.getElem?_map,hw]; rfl
     have v6 : ((slotsV l 6 (slotsV l 4 ws l.threads.toNat) j).map eWord).set b [sI 2,sU w.ver,sU w.ref] = (slotsV l 6 (slotsV l 4 ws l.threads.toNat) (j + 1)).map eWord := by
      show _ = (putV _ (atL l 6 j 0).toNat 2).map eWord
      rw [hbe,Int.toNat_natCast,putV_map hw]
     have v7 : (b : Int) < (N : Int) := by omega
     have v8 : b * 3 / 3 = b := by omega
     have F4 := And.intro F2 (And.intro @hcd (And.intro @v3 (And.intro @v4 (And.intro @hw (And.intro @v6 (And.intro @v7 (And.intro @v8 @hb)))))))
     refine eS fun _ hn28 _ _ => ?_;refine eO fun _ hk29 => ?_;refine tZ F4 ?_;refine hk29 _ ?_;refine hn28 (some ([1,3,30,31,32],none)) _ ?_;refine eS fun _ hn30 _ _ => ?_;refine eCt ?_;refine hn30 (some ([1,3,30,31],none)) _ ?_;refine eS fun _ hn31 _ _ => ?_;refine eB fun _ hn32 _ _ _ => ?_;refine eS fun _ hn33 _ _ => ?_;refine eO fun _ hk34 => ?_;refine tL F4 ?_;refine hk34 _ ?_;refine hn33 (some ([1,3,5,30,31],none)) _ ?_;refine eO fun _ hk35 => ?_;refine tC 2 F4 ?_;refine tS 1 F4 ?_;refine tS 1 F4 ?_;refine Or.inl (Or.inl ⟨_,kb,?_⟩);refine tC 1 F4 ?_;refine tZ F4 ?_;refine hk35 _ ?_;refine hn32 _ ?_;refine hn31 (some ([1,3,30,31],none)) _ ?_;refine eO fun _ hk36 => ?_;refine tC 1 F4 ?_;refine tL F4 ?_;refine hk36 _ ?_;refine hn22 (l.blocks.toNat - (j + 1)) (some ([1,3,30,31],some ([0,1],2))) _ ?_ ?_
     all_goals try refine lp0 ?_
     ·omega
     ·exact ⟨j + 1,by omega,by omega,rfl⟩
  ·skip
   have w2 : (i : Int) + 1 ≤ l.threads := by omega
   have w3 : IntKind.i64.wrap ((i : Int) + 1 + 1) = ((i + 1 : Nat) : Int) + 1 := by rw [IntKind.wrap_i64]; omega
   obtain ⟨b,hb,hbe,kb⟩ := k3 i hcc
   have v4 : (slotsV l 4 ws i).length = N := by rw [slotsV_len,hl]
   obtain ⟨w,hw⟩ : ∃ w,(slotsV l 4 ws i)[b]? = some w := ⟨_,List.getElem?_eq_getElem (by omega)⟩
   have v6 : ((slotsV l 4 ws i).map eWord).set b [sI 2,sU w.ver,sU w.ref] = (slotsV l 4 ws (i + 1)).map eWord := by
    show _ = (putV _ (atL l 4 i 0).toNat 2).map eWord
    rw [hbe,Int.toNat_natCast,putV_map hw]
   have v7 : (b : Int) < (N : Int) := by omega
   have v8 : b * 3 / 3 = b := by omega
   have F5 := And.intro F1 (And.intro @w2 (And.intro @w3 (And.intro @v4 (And.intro @hw (And.intro @v6 (And.intro @v7 (And.intro @v8 @hb)))))))
   refine eS fun _ hn37 _ _ => ?_;refine eS fun _ hn38 _ _ => ?_;refine eO fun _ hk39 => ?_;refine tC 3 F5 ?_;refine tZ F5 ?_;refine hk39 _ ?_;refine hn38 (some ([1,3,4,20],none)) _ ?_;refine eCt ?_;refine hn37 (some ([1,3,4],none)) _ ?_;refine eS fun _ hn40 _ _ => ?_;refine eB fun _ hn41 _ _ _ => ?_;refine eO fun _ hk42 => ?_;refine tC 2 F5 ?_;refine tS 1 F5 ?_;refine tS 1 F5 ?_;refine Or.inl (Or.inl ⟨_,kb,?_⟩);refine tC 1 F5 ?_;refine tZ F5 ?_;refine hk42 _ ?_;refine hn41 _ ?_;refine hn40 (some ([1,3,4],none)) _ ?_;refine eO fun _ hk43 => ?_;refine tC 2 F5 ?_;refine tL F5 ?_;refine hk43 _ ?_;refine hn14 (l.threads.toNat - (i + 1)) (some ([1,3,4],some ([0,1],2))) _ ?_ ?_
   all_goals try refine lp0 ?_
   ·omega
   ·exact ⟨i + 1,by omega,by omega,rfl⟩
end Go.Proofs.YtkmbcjnaaokilaaGreatDoor
