/-
  Layer 12 by shadows: the words of a layout, the used blocks; the reference's helper.
-/
import Derived.Test.YtkmbcjnaaokilaaGreatDoorK12m
import Derived.Test.YtkmbcjnaaokilaaGreatDoorK13b
namespace Go.Proofs.YtkmbcjnaaokilaaGreatDoor
set_option linter.unusedSimpArgs false
set_option linter.unusedVariables false
open Go.RowKit Go.Maps
theorem putV_get {ws : List WordV} {k q : Nat} (v : Int) (h : k ≠ q) : (putV ws k v)[q]? = ws[q]? := by unfold putV; rw [List.getElem?_set_ne h]
theorem slotsV_get {l : LayV} {p : Nat} {ws : List WordV} {q : Nat} : ∀ n : Nat,(∀ i : Nat,i < n → (atL l p i 0).toNat ≠ q) → (slotsV l p ws n)[q]? = ws[q]?
 | 0,_ => rfl
 | n + 1,h => by
  show (putV (slotsV l p ws n) (atL l p n 0).toNat 2)[q]? = _
  rw [putV_get _ (h n (Nat.lt_succ_self n)),slotsV_get n fun i hi => h i (by omega)]
theorem firstM_len (l : LayV) : (firstM l).length = (fromL l 7).toNat := by
 unfold firstM
 rw [slotsV_len,slotsV_len,putV_len,List.length_replicate]
theorem firstM_bits {l : LayV} (hl : checkL l = 0) {i : Nat} (hi : (i : Int) < l.blocks) : (firstM l)[(bitP l i).toNat]? = some ⟨0,0,0⟩ := by
 have hlt := bitP_lt hl hi
 have hge := bitP_ge hl i
 obtain ⟨hr,_⟩ := checkL_zero hl
 have hb := hr.2.2
 have e6 : fromL l 6 = fromL l 5 + longL l 5 := rfl
 have e5 : fromL l 5 = fromL l 4 + longL l 4 := rfl
 have e1 : fromL l 1 = 8 := rfl
 have h5 : longL l 5 = 8 := by
  unfold longL
  rw [if_pos ⟨rfl,by show 0 < l.blocks; omega⟩]; rfl
 have h15 := from_mono hr 1 4
 have hB : fromL l 5 ≤ bitP l i ∧ bitP l i < fromL l 6 := by unfold bitP; omega
 have h4 : l.threads * 104 ≤ longL l 4 := by
  have h0 : longL l 4 = (l.threads * 104 + 7) / 8 * 8 := by
   unfold longL
   rw [if_neg (by show ¬ ((104 : Int) = 0 ∧ _); omega)]; rfl
  omega
 have h15 : fromL l 1 ≤ fromL l 5 := h15
 have hA : ∀ j : Nat,j < l.threads.toNat → (atL l 4 j 0).toNat ≠ (bitP l i).toNat := fun j hj => by
  have hjt : (j : Int) < l.threads := by omega
  have e : atL l 4 j 0 = fromL l 4 + (j : Int) * 104 + 0 := by
   unfold atL
   rw [if_pos ⟨hl,by omega,hjt⟩]; rfl
  have h0 := (from_le hr 4).1
  have h1 : fromL l 4 + (j : Int) * 104 + 104 ≤ fromL l 5 := by rw [e5]; omega
  rw [e]
  intro h
  clear e
  omega
 have hC : ∀ j : Nat,j < l.blocks.toNat → (atL l 6 j 0).toNat ≠ (bitP l i).toNat := fun j hj => by
  have hjt : (j : Int) < l.blocks := by omega
  have e : atL l 6 j 0 = fromL l 6 + (j : Int) * 32 + 0 := by
   unfold atL
   rw [if_pos ⟨hl,by omega,hjt⟩]; rfl
  rw [e]
  intro h
  clear e
  omega
 have hD : (atL l 0 0 1).toNat ≠ (bitP l i).toNat := by
  have e : atL l 0 0 1 = 1 := by
   unfold atL
   rw [if_pos ⟨hl,by omega,by show (0 : Int) < 1; omega⟩]; rfl
  rw [e]
  intro h
  clear e
  omega
 unfold firstM
 rw [slotsV_get _ hC,slotsV_get _ hA,putV_get _ hD,List.getElem?_replicate,if_pos (by omega)]
theorem first_used {l : LayV} (hl : checkL l = 0) {i : Nat} (hi : (i : Int) < l.blocks) : usedF l (wordF (firstM l)) i = false := by
 unfold usedF wordF
 rw [firstM_bits hl hi,usedB_eq]
 show (BitVec.ofInt 64 0).getLsbD _ = false
 simp
abbrev eU (i : Nat) : List Sh := [sI i]
def usedL (l : LayV) (f : Int → WordV) : List Nat := (List.range l.blocks.toNat).filter (usedF l f)
theorem ok_arRight (l : LayV) (g : Nat) (ws : List WordV) : Ok 46 [.agg (eLay l),.sl 3 g (ws.map eWord)] (sB (decide (checkL l = 0 ∧ fromL l 7 ≤ (ws.length : Int)))) := by
 refine ok_of_tr Tryz.func46 tr_arRight rfl ?_
 have k0 := ok_layCheck l
 have k1 := ok_laySize l
 by_cases h : checkL l = 0
 ·rw [h] at k0
  unfold sizeofL at k1
  rw [if_pos h] at k1
  have e : decide (checkL l = 0 ∧ fromL l 7 ≤ (ws.length : Int)) = decide (fromL l 7 ≤ (ws.length : Int)) := by simp [h]
  rw [e]
  unfold evFn sc_arRight rv_arRight
  refine eS fun K1 hn1 hr1 he1 => ?_;refine eO fun K2 hk2 => ?_;refine tL0 ?_;refine hk2 _ ?_;refine hn1 (some ([1,2],none)) _ ?_;refine eS fun K3 hn3 hr3 he3 => ?_;refine eO fun K4 hk4 => ?_;refine tC0 1 ?_;refine tS0 1 ?_;refine Or.inl (Or.inl ⟨_,k0,?_⟩);refine tC0 1 ?_;refine tC0 4 ?_;refine tS0 1 ?_;refine Or.inl (Or.inl ⟨_,k1,?_⟩);refine tC0 1 ?_;refine tL0 ?_;refine hk4 _ ?_;refine hn3 (some ([4],none)) _ ?_
  exact sf0
 ·rw [show decide (checkL l = 0 ∧ fromL l 7 ≤ (ws.length : Int)) = false from decide_eq_false (fun h' => h h'.1)]
  have d : (checkL l == 0) = false := by simpa using h
  unfold evFn sc_arRight rv_arRight
  have F1 := @d
  refine eS fun K1 hn1 hr1 he1 => ?_;refine eO fun K2 hk2 => ?_;refine tL F1 ?_;refine hk2 _ ?_;refine hn1 (some ([1,2],none)) _ ?_;refine eS fun K3 hn3 hr3 he3 => ?_;refine eO fun K4 hk4 => ?_;refine tC 1 F1 ?_;refine tS 1 F1 ?_;refine Or.inl (Or.inl ⟨_,k0,?_⟩);refine tC 1 F1 ?_;refine tC 4 F1 ?_;refine tS 1 F1 ?_
  skip
  refine tC 1 F1 ?_;refine tL F1 ?_;refine hk4 _ ?_;refine hn3 (some ([4],none)) _ ?_
  exact sf1 F1
def UsInv (l : LayV) (g : Nat) (ws : List WordV) (k : Nat) (S : St) : Prop :=
 ∃ i : Nat,(i : Int) ≤ l.blocks ∧ k = l.blocks.toNat - i ∧ S = ⟨[(1,.sl 3 g (ws.map eWord)),(2,.ptr 0 0 0),(5,.own 1),(14,sI l.blocks),(15,sI i)],[(0,.box 25 (eLay l)),(1,.row 3 1 (((List.range i).filter (usedF l (wordF ws))).map eU))],2⟩
set_option maxHeartbeats 4000000 in
theorem ok_arUsed {l : LayV} (hl : checkL l = 0) (g : Nat) (ws : List WordV) (hw : fromL l 7 ≤ (ws.length : Int)) : Ok 19 [.agg (eLay l),.sl 3 g (ws.map eWord)] (.sl 1 0 ((usedL l (wordF ws)).map eU)) := by
 refine ok_of_tr Tryz.func19 tr_arUsed rfl ?_
 have k0 := ok_arRight l g ws
 rw [decide_eq_true ⟨hl,hw⟩] at k0
 have hb := (checkL_zero hl).1.2.2
 have kb := fun i hi => ok_layBits hl i hi
 have hbp : ∀ i : Nat,(i : Int) < l.blocks → ∃ b : Nat,bitP l i = (b : Int) ∧ b < ws.length := fun i hi => by
  have h1 := bitP_ge hl i
  have h2 := bitP_lt hl hi
  exact ⟨(bitP l i).toNat,by omega,by omega⟩
 unfold usedL
 unfold evFn sc_arUsed rv_arUsed
 refine eS fun _ hn1 _ _ => ?_;refine eO fun _ hk2 => ?_;refine tL0 ?_;refine hk2 _ ?_;refine hn1 (some ([1,2],none)) _ ?_;refine eS fun _ hn3 _ _ => ?_;refine eS fun _ hn4 _ _ => ?_;refine eO fun _ hk5 => ?_;refine tC0 1 ?_;refine tS0 1 ?_;refine tS0 1 ?_;refine Or.inl (Or.inl ⟨_,k0,?_⟩);refine tL0 ?_;refine hk5 _ ?_;refine hn4 (some ([1,2,12],none)) _ ?_;refine eCf ?_;refine hn3 (some ([1,2],none)) _ ?_;refine eS fun _ hn6 _ _ => ?_;refine eO fun _ hk7 => ?_;refine tL0 ?_;refine hk7 _ ?_;refine hn6 (some ([1,2,5],none)) _ ?_;refine eS fun _ hn8 _ _ => ?_;refine eS fun _ hn9 _ _ => ?_;refine eO fun _ hk10 => ?_;refine tC0 2 ?_;refine tL0 ?_;refine hk10 _ ?_;refine hn9 (some ([1,2,5,14,15],none)) _ ?_;refine eB fun _ _ hx11 _ _ => ?_;refine eW (UsInv l g ws) (l.blocks.toNat) (some ([1,2,5,14,15],some ([0,1],2))) ([.slot 5 (some 3) 1]) ?_ ?_
 ·try refine lp0 ?_
  exact ⟨0,by omega,by omega,by rfl⟩
 ·intro k S1 hI
  obtain ⟨i,hi,rfl,rfl⟩ := hI
  have hcase : (i : Int) = l.blocks ∨ ((i : Int) < l.blocks ∧ usedF l (wordF ws) i = true) ∨ ((i : Int) < l.blocks ∧ usedF l (wordF ws) i = false) := by
   rcases Int.lt_or_le i l.blocks with h | h
   ·cases hu : usedF l (wordF ws) i
    ·exact .inr (.inr ⟨h,rfl⟩)
    ·exact .inr (.inl ⟨h,rfl⟩)
   ·exact .inl (by omega)
  intro _ hn12 _ he12
  rcases hcase with hcc | ⟨hcc,hu⟩ | ⟨hcc,hu⟩
  ·skip
   obtain rfl : i = l.blocks.toNat := by omega
   have w2 : ¬ (l.blocks.toNat : Int) < l.blocks := by omega
   have F1 := @w2
   refine eS fun _ hn13 _ _ => ?_;refine eO fun _ hk14 => ?_;refine tZ F1 ?_;refine hk14 _ ?_;refine hn13 (some ([1,2,5,14,15,16],none)) _ ?_;refine eS fun _ _ _ he15 => ?_;refine eCf ?_;refine he15 0 _ ?_;refine he12 0 _ ?_;refine hx11 _ ?_;refine hn8 (some ([5],none)) _ ?_;refine eS fun _ hn16 _ _ => ?_;refine eO fun _ hk17 => ?_;refine tL F1 ?_;refine hk17 _ ?_;refine hn16 (some ([4],none)) _ ?_
   exact sf1 F1
  ·skip
   have w3 : IntKind.i64.wrap ((i : Int) + 1) = ((i + 1 : Nat) : Int) := by rw [IntKind.wrap_i64]; omega
   have kbi := kb i hcc
   obtain ⟨b,hb1,hb2⟩ := hbp i hcc
   obtain ⟨w,hwb⟩ : ∃ w,ws[b]? = some w := ⟨_,List.getElem?_eq_getElem hb2⟩
   have hu2 : (bitsI .and .i64 w.val (bitV i) != 0) = true := by
    have : usedB (wordF ws (bitP l i)).val i = true := hu
    rwa [hb1,show wordF ws (b : Int) = w by unfold wordF; rw [Int.toNat_natCast,hwb]; rfl] at this
   rw [hb1] at kbi
   have hs : ((List.range (i + 1)).filter (usedF l (wordF ws))).map eU = ((List.range i).filter (usedF l (wordF ws))).map eU ++ [[sI i]] := by
    rw [List.range_succ,List.filter_append,List.map_append]; simp [hu]
   have w4 : ((List.range i).filter (usedF l (wordF ws))).length ≤ 64 := Nat.le_trans (List.length_filter_le _ _) (by simp; omega)
   have w5 : ((List.range i).filter (usedF l (wordF ws))).length + 1 ≤ 140737488355328 := by omega
   have w6 : (((List.range i).filter (usedF l (wordF ws))).length + 1) * 8 ≤ 140737488355328 := by omega
   have w7 : (b : Int) < (ws.length : Int) := by omega
   have F2 := And.intro @hcc (And.intro @w3 (And.intro @hu2 (And.intro @hwb (And.intro @w5 (And.intro @w6 (And.intro @hb2 @w7))))))
   refine eS fun _ hn18 _ _ => ?_;refine eO fun _ hk19 => ?_;refine tZ F2 ?_;refine hk19 _ ?_;refine hn18 (some ([1,2,5,14,15,16],none)) _ ?_;refine eS fun _ hn20 _ _ => ?_;refine eCt ?_;refine hn20 (some ([1,2,5,14,15],none)) _ ?_;refine eS fun _ hn21 _ _ => ?_;refine eB fun _ hn22 _ _ _ => ?_;refine eS fun _ hn23 _ _ => ?_;refine eO fun _ hk24 => ?_;refine tL F2 ?_;refine hk24 _ ?_;refine hn23 (some ([1,2,5,6,14,15],none)) _ ?_;refine eS fun _ hn25 _ _ => ?_;refine eO fun _ hk26 => ?_;refine tC 1 F2 ?_;refine tS 1 F2 ?_;refine tS 1 F2 ?_;refine Or.inl (Or.inl ⟨_,kbi,?_⟩);refine tL F2 ?_;refine hk26 _ ?_;refine hn25 (some ([1,2,5,6,7,8,14,15],none)) _ ?_;refine eS fun _ hn27 _ _ => ?_;refine eO fun _ hk28 => ?_;refine tC 3 F2 ?_;refine tC 2 F2 ?_;refine tS 1 F2 ?_;refine tS 1 F2 ?_;refine Or.inl ⟨_,gen_bits (.inl rfl),?_⟩;refine tZ F2 ?_;refine hk28 _ ?_;refine hn27 (some ([1,2,5,6,14,15,31],none)) _ ?_
   refine eCt ?_;refine eO fun _ hk29 => ?_;refine tC 3 F2 ?_;refine tC 1 F2 ?_;refine tL F2 ?_;refine hk29 _ ?_;refine hn22 _ ?_;refine hn21 (some ([1,2,5,14,15],none)) _ ?_;refine eO fun _ hk30 => ?_;refine tC 1 F2 ?_;refine tL F2 ?_;refine hk30 _ ?_;refine hn12 (l.blocks.toNat - (i + 1)) (some ([1,2,5,14,15],some ([0,2],2))) _ ?_ ?_
   all_goals try refine lp0 ?_
   ·omega
   ·exact ⟨i + 1,by omega,by omega,by rw [hs]⟩
  ·skip
   have w3 : IntKind.i64.wrap ((i : Int) + 1) = ((i + 1 : Nat) : Int) := by rw [IntKind.wrap_i64]; omega
   have kbi := kb i hcc
   obtain ⟨b,hb1,hb2⟩ := hbp i hcc
   obtain ⟨w,hwb⟩ : ∃ w,ws[b]? = some w := ⟨_,List.getElem?_eq_getElem hb2⟩
   have hu2 : (bitsI .and .i64 w.val (bitV i) != 0) = false := by
    have : usedB (wordF ws (bitP l i)).val i = false := hu
    rwa [hb1,show wordF ws (b : Int) = w by unfold wordF; rw [Int.toNat_natCast,hwb]; rfl] at this
   rw [hb1] at kbi
   have hs : ((List.range (i + 1)).filter (usedF l (wordF ws))).map eU = ((List.range i).filter (usedF l (wordF ws))).map eU := by
    rw [List.range_succ,List.filter_append,List.map_append]; simp [hu]
   have w7 : (b : Int) < (ws.length : Int) := by omega
   have F3 := And.intro @hcc (And.intro @w3 (And.intro @hu2 (And.intro @hwb (And.intro @hb2 @w7))))
   refine eS fun _ hn31 _ _ => ?_;refine eO fun _ hk32 => ?_;refine tZ F3 ?_;refine hk32 _ ?_;refine hn31 (some ([1,2,5,14,15,16],none)) _ ?_;refine eS fun _ hn33 _ _ => ?_;refine eCt ?_;refine hn33 (some ([1,2,5,14,15],none)) _ ?_;refine eS fun _ hn34 _ _ => ?_;refine eB fun _ hn35 _ _ _ => ?_;refine eS fun _ hn36 _ _ => ?_;refine eO fun _ hk37 => ?_;refine tL F3 ?_;refine hk37 _ ?_;refine hn36 (some ([1,2,5,6,14,15],none)) _ ?_;refine eS fun _ hn38 _ _ => ?_;refine eO fun _ hk39 => ?_;refine tC 1 F3 ?_;refine tS 1 F3 ?_;refine tS 1 F3 ?_;refine Or.inl (Or.inl ⟨_,kbi,?_⟩);refine tL F3 ?_;refine hk39 _ ?_;refine hn38 (some ([1,2,5,6,7,8,14,15],none)) _ ?_;refine eS fun _ hn40 _ _ => ?_;refine eO fun _ hk41 => ?_;refine tC 3 F3 ?_;refine tC 2 F3 ?_;refine tS 1 F3 ?_;refine tS 1 F3 ?_;refine Or.inl ⟨_,gen_bits (.inl rfl),?_⟩;refine tZ F3 ?_;refine hk41 _ ?_;refine hn40 (some ([1,2,5,6,14,15,31],none)) _ ?_
   refine eCf ?_;refine hn35 _ ?_;refine hn34 (some ([1,2,5,14,15],none)) _ ?_;refine eO fun _ hk42 => ?_;refine tC 1 F3 ?_;refine tL F3 ?_;refine hk42 _ ?_;refine hn12 (l.blocks.toNat - (i + 1)) (some ([1,2,5,14,15],some ([0,1],2))) _ ?_ ?_
   all_goals try refine lp0 ?_
   ·omega
   ·exact ⟨i + 1,by omega,by omega,by rw [hs]⟩
def SaInv (g g2 : Nat) (a b : List Nat) (k : Nat) (S : St) : Prop :=
 ∃ i : Nat,i ≤ a.length ∧ k = a.length - i ∧ (∀ j,j < i → a[j]? = b[j]?) ∧ S = ⟨[(0,.sl 1 g (a.map eU)),(1,.sl 1 g2 (b.map eU)),(5,sI i)],[],0⟩
set_option maxHeartbeats 2000000 in
theorem ok_r12Same (g g2 : Nat) (a b : List Nat) (hn : a.length ≤ 1000000) (hb : b.length ≤ 1000000) : Ok 18 [.sl 1 g (a.map eU),.sl 1 g2 (b.map eU)] (sB (decide (a = b))) := by
 refine ok_of_tr Tryz.func18 tr_r12Same rfl ?_
 by_cases hl : a.length = b.length
 case neg =>
  have d : ((a.length : Int) != (b.length : Int)) = true := by rw [bne_iff_ne]; omega
  rw [show decide (a = b) = false from decide_eq_false (fun e => hl (by rw [e]))]
  unfold evFn sc_r12Same rv_r12Same
  have F1 := @d
  refine eS fun K1 hn1 hr1 he1 => ?_;refine eO fun K2 hk2 => ?_;refine tL F1 ?_;refine hk2 _ ?_;refine hn1 (some ([0,1],none)) _ ?_;refine eS fun K3 hn3 hr3 he3 => ?_;refine eS fun K4 hn4 hr4 he4 => ?_;refine eO fun K5 hk5 => ?_;refine tZ F1 ?_;refine hk5 _ ?_;refine hn4 (some ([0,1,10],none)) _ ?_;refine eCt ?_;refine eS fun K6 hn6 hr6 he6 => ?_;refine eO fun K7 hk7 => ?_;refine tL F1 ?_;refine hk7 _ ?_;refine hn6 (some ([4],none)) _ ?_;refine hr3 _ ?_
  exact sf1 F1
 have d : ((a.length : Int) != (b.length : Int)) = false := by rw [hl]; simp
 unfold evFn sc_r12Same rv_r12Same
 have F1 := @d
 refine eS fun K1 hn1 hr1 he1 => ?_;refine eO fun K2 hk2 => ?_;refine tL F1 ?_;refine hk2 _ ?_;refine hn1 (some ([0,1],none)) _ ?_;refine eS fun K3 hn3 hr3 he3 => ?_;refine eS fun K4 hn4 hr4 he4 => ?_;refine eO fun K5 hk5 => ?_;refine tZ F1 ?_;refine hk5 _ ?_;refine hn4 (some ([0,1,10],none)) _ ?_;refine eCf ?_;refine hn3 (some ([0,1],none)) _ ?_;refine eS fun K6 hn6 hr6 he6 => ?_;refine eS fun K7 hn7 _ _ => ?_;refine eO fun _ hk8 => ?_;refine tL F1 ?_;refine hk8 _ ?_;refine hn7 (some ([0,1,5],none)) _ ?_;refine eB fun _ _ hx9 hr9 _ => ?_;refine eW (SaInv g g2 a b) (a.length) (some ([0,1,5],none)) ([]) ?_ ?_
 ·try refine lp0 ?_
  exact ⟨0,by omega,by omega,fun j hj => absurd hj (by omega),by rfl⟩
 ·intro k S1 hI
  obtain ⟨i,hi,rfl,hj,rfl⟩ := hI
  have hcase : i = a.length ∨ (∃ x y,a[i]? = some x ∧ b[i]? = some y ∧ x ≠ y) ∨ (∃ x,a[i]? = some x ∧ b[i]? = some x) := by
   rcases Nat.lt_or_ge i a.length with h | h
   ·have h1 := List.getElem?_eq_getElem h
    have h2 := List.getElem?_eq_getElem (l := b) (i := i) (by omega)
    by_cases e : a[i] = b[i]
    ·exact .inr (.inr ⟨_,h1,by rw [h2,e]⟩)
    ·exact .inr (.inl ⟨_,_,h1,h2,e⟩)
   ·exact .inl (by omega)
  intro _ hn10 hr10 he10
  rcases hcase with hcc | ⟨x,y,hx1,hy1,hne⟩ | ⟨x,hx1,hy1⟩
  ·skip
   have w2 : ¬ (i : Int) < (a.length : Int) := by omega
   have e1 : decide (a = b) = true := by
    refine decide_eq_true (List.ext_getElem? fun j => ?_)
    rcases Nat.lt_or_ge j i with h | h
    ·exact hj j h
    ·rw [List.getElem?_eq_none (by omega),List.getElem?_eq_none (by omega)]
   have F2 := And.intro F1 (And.intro @w2 @e1)
   refine eS fun _ _ _ he11 => ?_;refine eS fun _ hn12 _ _ => ?_;refine eO fun _ hk13 => ?_;refine tZ F2 ?_;refine hk13 _ ?_;refine hn12 (some ([0,1,5,14],none)) _ ?_;refine eCf ?_;refine he11 0 _ ?_;refine he10 0 _ ?_;refine hx9 _ ?_;refine hn6 (some ([],none)) _ ?_;refine eS fun _ hn14 _ _ => ?_;refine eO fun _ hk15 => ?_;refine tL F2 ?_;refine hk15 _ ?_;refine hn14 (some ([4],none)) _ ?_
   exact sf1 F2
  ·skip
   have hlt := (List.getElem?_eq_some_iff.1 hx1).1
   have w2 : (i : Int) < (a.length : Int) := by omega
   have w3 : ((x : Int) != (y : Int)) = true := by rw [bne_iff_ne]; omega
   have e1 : decide (a = b) = false := decide_eq_false (fun e => by rw [e,hy1] at hx1; cases hx1; exact hne rfl)
   have w4 : (i : Int) < (b.length : Int) := by omega
   have F3 := And.intro F1 (And.intro @w2 (And.intro @w3 (And.intro @w4 (And.intro @hx1 (And.intro @hy1 @e1)))))
   refine eS fun _ hn16 _ _ => ?_;refine eS fun _ hn17 _ _ => ?_;refine eO fun _ hk18 => ?_;refine tZ F3 ?_;refine hk18 _ ?_;refine hn17 (some ([0,1,5,14],none)) _ ?_;refine eCt ?_;refine hn16 (some ([0,1,5],none)) _ ?_;refine eS fun _ _ hr19 _ => ?_;refine eB fun _ _ _ hr20 _ => ?_;refine eS fun _ hn21 _ _ => ?_;refine eD [] (n := 8) fun _ hk22 => ?_;refine sq0 ?_;refine fC 3 F3 ?_;refine fC 1 F3 ?_;refine fC 3 F3 ?_;refine fZ F3 ?_;refine hk22 _ ?_;refine sr0 ?_;refine tZ F3 ?_;refine hn21 (some ([0,1,5,25],none)) _ ?_;refine eCt ?_;refine eS fun _ hn24 _ _ => ?_;refine eO fun _ hk25 => ?_;refine tL F3 ?_;refine hk25 _ ?_;refine hn24 (some ([4],none)) _ ?_;refine hr20 _ ?_;refine hr19 _ ?_;refine hr10 _ ?_;refine hr9 _ ?_;refine hr6 _ ?_
   exact sf1 F3
  ·skip
   have hlt := (List.getElem?_eq_some_iff.1 hx1).1
   have w2 : (i : Int) < (a.length : Int) := by omega
   have w3 : IntKind.i64.wrap ((i : Int) + 1) = ((i + 1 : Nat) : Int) := by rw [IntKind.wrap_i64]; omega
   have w4 : (i : Int) < (b.length : Int) := by omega
   have F4 := And.intro F1 (And.intro @w2 (And.intro @w3 (And.intro @w4 (And.intro @hx1 @hy1))))
   refine eS fun _ hn26 _ _ => ?_;refine eS fun _ hn27 _ _ => ?_;refine eO fun _ hk28 => ?_;refine tZ F4 ?_;refine hk28 _ ?_;refine hn27 (some ([0,1,5,14],none)) _ ?_;refine eCt ?_;refine hn26 (some ([0,1,5],none)) _ ?_;refine eS fun _ hn29 _ _ => ?_;refine eB fun _ hn30 _ _ _ => ?_;refine eS fun _ hn31 _ _ => ?_;refine eD [] (n := 8) fun _ hk32 => ?_;refine sq0 ?_;refine fC 3 F4 ?_;refine fC 1 F4 ?_;refine fC 3 F4 ?_;refine fZ F4 ?_;refine hk32 _ ?_;refine sr0 ?_;refine tZ F4 ?_;refine hn31 (some ([0,1,5,25],none)) _ ?_;refine eCf ?_;refine hn30 _ ?_;refine hn29 (some ([0,1,5],none)) _ ?_;refine eO fun _ hk34 => ?_;refine tC 2 F4 ?_;refine tL F4 ?_;refine hk34 _ ?_;refine hn10 (a.length - (i + 1)) (some ([0,1,5],none)) _ ?_ ?_
   all_goals try refine lp0 ?_
   ·omega
   ·refine ⟨i + 1,by omega,by omega,fun j h => ?_,rfl⟩
    by_cases e : j = i
    ·subst e; rw [hx1,hy1]
    ·exact hj j (by omega)
end Go.Proofs.YtkmbcjnaaokilaaGreatDoor
