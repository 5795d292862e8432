/-
  Layer 12 by shadows: Mark.
-/
import Derived.Test.YtkmbcjnaaokilaaGreatDoorMK6
namespace Go.Proofs.YtkmbcjnaaokilaaGreatDoor
set_option linter.unusedSimpArgs false
set_option linter.unusedVariables false
open Go.RowKit Go.Maps
def setW (ws : List WordV) (p : Nat) (v : Int) : List WordV := ws.set p ⟨v,(wordF ws p).ver,(wordF ws p).ref⟩
theorem setW_len (ws : List WordV) (p : Nat) (v : Int) : (setW ws p v).length = ws.length := by unfold setW; rw [List.length_set]
theorem wordF_set {ws : List WordV} {p : Nat} (h : p < ws.length) (x : WordV) (q : Nat) : wordF (ws.set p x) (q : Int) = if p = q then x else wordF ws (q : Int) := by
 unfold wordF
 rw [Int.toNat_natCast,List.getElem?_set]
 split
 ·rename_i e; subst e; first | rfl | (rw [if_pos h]; rfl)
 ·rfl
theorem setW_map {ws : List WordV} {p : Nat} {w : WordV} (h : ws[p]? = some w) (v : Int) : (setW ws p v).map eWord = (ws.map eWord).set p [sI v,sU w.ver,sU w.ref] := by
 have e : wordF ws (p : Int) = w := by unfold wordF; rw [Int.toNat_natCast,h]; rfl
 unfold setW
 rw [e,List.map_set]
theorem rest_refl (l : LayV) (ws : List WordV) : RestA l ws ws := ⟨rfl,fun i x y hx hy => by rw [hx] at hy; cases hy; exact ⟨rfl,rfl,.inl rfl⟩⟩
theorem rest_setW {l : LayV} {a b : List WordV} (h : RestA l a b) {p i : Nat} (hi : i < l.blocks.toNat) (hp : bitP l i = (p : Int)) (v : Int) : RestA l a (setW b p v) := by
 refine ⟨by rw [setW_len]; exact h.len,fun j x y hx hy => ?_⟩
 unfold setW at hy
 rw [List.getElem?_set] at hy
 split at hy
 ·rename_i e
  subst e
  split at hy
  ·rename_i hlt
   obtain ⟨w,hw⟩ : ∃ w,b[p]? = some w := ⟨_,List.getElem?_eq_getElem hlt⟩
   have e1 : wordF b (p : Int) = w := by unfold wordF; rw [Int.toNat_natCast,hw]; rfl
   obtain ⟨q1,q2,_⟩ := h.w p x w hx hw
   rw [e1] at hy
   cases hy
   exact ⟨q1,q2,.inr ⟨by rw [← hp]; exact bitP_mono (by omega),by rw [← hp]; exact bitP_mono (by omega)⟩⟩
  ·cases hy
 ·exact h.w j x y hx hy
def clearW (l : LayV) (ws : List WordV) : Nat → List WordV
 | 0 => ws
 | i + 1 => setW (clearW l ws i) (bitP l i).toNat 0
theorem clearW_len (l : LayV) (ws : List WordV) : ∀ i,(clearW l ws i).length = ws.length
 | 0 => rfl
 | i + 1 => by unfold clearW; rw [setW_len,clearW_len l ws i]
theorem clearW_rest {l : LayV} (hl : checkL l = 0) (ws : List WordV) : ∀ i,i ≤ l.blocks.toNat → RestA l ws (clearW l ws i)
 | 0,_ => rest_refl l ws
 | i + 1,h => rest_setW (clearW_rest hl ws i (by omega)) (i := i) (by omega) (by have := bitP_ge hl i; omega) 0
def orW (l : LayV) (ws : List WordV) (u : Nat) : List WordV := setW ws (bitP l u).toNat (bitsI .or .i64 (wordF ws (bitP l u)).val (bitV u))
def markW (l : LayV) (ws : List WordV) (us : List Nat) : List WordV := us.foldl (orW l) (clearW l ws l.blocks.toNat)
theorem orW_len (l : LayV) (ws : List WordV) (u : Nat) : (orW l ws u).length = ws.length := setW_len _ _ _
theorem foldl_len (l : LayV) : ∀ (us : List Nat) (ws : List WordV),(us.foldl (orW l) ws).length = ws.length
 | [],_ => rfl
 | u :: us,ws => by rw [List.foldl_cons,foldl_len l us,orW_len]
theorem markW_len (l : LayV) (ws : List WordV) (us : List Nat) : (markW l ws us).length = ws.length := by unfold markW; rw [foldl_len,clearW_len]
theorem foldl_rest {l : LayV} (hl : checkL l = 0) {a : List WordV} : ∀ (us : List Nat) (ws : List WordV),(∀ u ∈ us,u < l.blocks.toNat) → RestA l a ws → RestA l a (us.foldl (orW l) ws)
 | [],_,_,h => h
 | u :: us,ws,hu,h => by
  rw [List.foldl_cons]
  exact foldl_rest hl us _ (fun x hx => hu x (by simp [hx])) (rest_setW h (hu u (by simp)) (by have := bitP_ge hl u; omega) _)
theorem markW_rest {l : LayV} (hl : checkL l = 0) (ws : List WordV) {us : List Nat} (hu : ∀ u ∈ us,u < l.blocks.toNat) : RestA l ws (markW l ws us) := foldl_rest hl us _ hu (clearW_rest hl ws _ (Nat.le_refl _))
theorem used_orW {l : LayV} (hl : checkL l = 0) {ws : List WordV} (hw : fromL l 7 ≤ (ws.length : Int)) {u : Nat} (hu : u < l.blocks.toNat) (c : Nat) : usedF l (wordF (orW l ws u)) c = (usedF l (wordF ws) c || decide (u = c)) := by
 have hg := bitP_ge hl c
 have hg2 := bitP_ge hl u
 have hlt := bitP_lt hl (i := u) (by omega)
 rw [← used_set]
 unfold usedF
 congr 2
 obtain ⟨q,hq⟩ := Int.eq_ofNat_of_zero_le hg
 obtain ⟨p,hp⟩ := Int.eq_ofNat_of_zero_le hg2
 unfold orW setW setB
 rw [hq,hp,Int.toNat_natCast,wordF_set (by omega)]
 by_cases e : p = q
 ·subst e; rw [if_pos rfl,if_pos rfl]
 ·rw [if_neg e,if_neg (by omega)]
theorem used_clearW {l : LayV} (hl : checkL l = 0) {ws : List WordV} (hw : fromL l 7 ≤ (ws.length : Int)) {c : Nat} : ∀ i,i ≤ l.blocks.toNat → c < i → usedF l (wordF (clearW l ws i)) c = false
 | 0,_,h => absurd h (by omega)
 | i + 1,hi,h => by
  have hg := bitP_ge hl c
  have hg2 := bitP_ge hl i
  have hlt := bitP_lt hl (i := i) (by omega)
  obtain ⟨q,hq⟩ := Int.eq_ofNat_of_zero_le hg
  obtain ⟨p,hp⟩ := Int.eq_ofNat_of_zero_le hg2
  have hz : ∀ k,usedB 0 k = false := fun k => by rw [usedB_eq]; unfold bitB; simp
  unfold usedF
  unfold clearW setW
  rw [hq,hp,Int.toNat_natCast,wordF_set (by rw [clearW_len]; omega)]
  by_cases e : p = q
  ·subst e; rw [if_pos rfl]; exact hz c
  ·rw [if_neg e,← hq]
   by_cases e2 : c = i
   ·subst e2; rw [hq] at hp; omega
   ·exact used_clearW hl hw i (by omega) (by omega)
theorem used_foldl {l : LayV} (hl : checkL l = 0) {c : Nat} : ∀ (us : List Nat) (ws : List WordV),fromL l 7 ≤ (ws.length : Int) → (∀ u ∈ us,u < l.blocks.toNat) → usedF l (wordF (us.foldl (orW l) ws)) c = (usedF l (wordF ws) c || us.contains c)
 | [],_,_,_ => by simp
 | u :: us,ws,hw,hu => by
  rw [List.foldl_cons,used_foldl hl us _ (by rw [orW_len]; exact hw) (fun x hx => hu x (by simp [hx])),used_orW hl hw (hu u (by simp))]
  rw [List.contains_cons,Bool.or_assoc]
  congr 2
  rw [Bool.eq_iff_iff]; simp; exact eq_comm
theorem used_markW {l : LayV} (hl : checkL l = 0) {ws : List WordV} (hw : fromL l 7 ≤ (ws.length : Int)) {us : List Nat} (hu : ∀ u ∈ us,u < l.blocks.toNat) {c : Nat} (hc : c < l.blocks.toNat) : usedF l (wordF (markW l ws us)) c = us.contains c := by
 unfold markW
 rw [used_foldl hl us _ (by rw [clearW_len]; exact hw) hu,used_clearW hl hw _ (Nat.le_refl _) hc,Bool.false_or]
theorem ok_arMark1 (l : LayV) (x : Int) : Ok 57 [sI x,.fp (eLay l) 0] (sB (decide (x < 0) || decide (l.blocks ≤ x))) := by
 refine ok_of_tr Tryz.func57 tr_arMark1 rfl ?_
 by_cases h : x < 0
 ·rw [decide_eq_true h,Bool.true_or]
  unfold evFn sc_arMark1 rv_arMark1
  have F1 := @h
  refine eS fun K1 hn1 hr1 he1 => ?_;refine eO fun K2 hk2 => ?_;refine tL F1 ?_;refine hk2 _ ?_;refine hn1 (some ([0,1],none)) _ ?_;refine eS fun K3 hn3 hr3 he3 => ?_;refine eO fun K4 hk4 => ?_;refine tC 2 F1 ?_;refine tC 4 F1 ?_;refine tC 1 F1 ?_;refine tL F1 ?_;refine hk4 _ ?_;refine hn3 (some ([3],none)) _ ?_
  exact sf1 F1
 ·rw [decide_eq_false h,Bool.false_or]
  unfold evFn sc_arMark1 rv_arMark1
  have F1 := @h
  refine eS fun K1 hn1 hr1 he1 => ?_;refine eO fun K2 hk2 => ?_;refine tL F1 ?_;refine hk2 _ ?_;refine hn1 (some ([0,1],none)) _ ?_;refine eS fun K3 hn3 hr3 he3 => ?_;refine eO fun K4 hk4 => ?_;refine tC 2 F1 ?_;refine tC 4 F1 ?_;refine tC 1 F1 ?_;refine tL F1 ?_;refine hk4 _ ?_;refine hn3 (some ([3],none)) _ ?_
  exact sf1 F1
abbrev eZ (x : Int) : List Sh := [sI x]
def findZ (a : List Int) (bad : Int → Bool) : Int := match a.findIdx? bad with
 | some i => (i : Int)
 | none => -1
def FiInv (g : Nat) (f : FuncId) (cap : List Sh) (a : List Int) (bad : Int → Bool) (k : Nat) (S : St) : Prop :=
 ∃ i : Nat,i ≤ a.length ∧ k = a.length - i ∧ (∀ j x,j < i → a[j]? = some x → bad x = false) ∧ S = ⟨[(0,.sl 1 g (a.map eZ)),(1,.fn (.func f) [] cap),(7,sI a.length),(8,sI i)],[],0⟩
set_option maxHeartbeats 2000000 in
theorem ok_indexInt (g : Nat) (f : FuncId) (cap : List Sh) (a : List Int) (bad : Int → Bool) (hn : a.length ≤ 1000000) (hE : Enters f) (hf : ∀ x,Ok f (sI x :: cap) (sB (bad x))) : Ok 76 [.sl 1 g (a.map eZ),.fn (.func f) [] cap] (sI (findZ a bad)) := by
 refine ok_of_tr Tryz.func76 tr_indexInt rfl ?_
 unfold evFn sc_indexInt rv_indexInt
 refine eS fun _ hn1 _ _ => ?_;refine eO fun _ hk2 => ?_;refine tL0 ?_;refine hk2 _ ?_;refine hn1 (some ([0,1],none)) _ ?_;refine eS fun _ hn3 hr3 _ => ?_;refine eS fun _ hn4 _ _ => ?_;refine eO fun _ hk5 => ?_;refine tL0 ?_;refine hk5 _ ?_;refine hn4 (some ([0,1,7,8],none)) _ ?_;refine eB fun _ _ hx6 hr6 _ => ?_;refine eW (FiInv g f cap a bad) (a.length) (some ([0,1,7,8],none)) ([]) ?_ ?_
 ·try refine lp0 ?_
  exact ⟨0,by omega,by omega,fun j x hj => absurd hj (by omega),by rfl⟩
 ·intro k S1 hI
  obtain ⟨i,hi,rfl,hj,rfl⟩ := hI
  have hcase : i = a.length ∨ (∃ x,a[i]? = some x ∧ bad x = true) ∨ (∃ x,a[i]? = some x ∧ bad x = false) := by
   rcases Nat.lt_or_ge i a.length with h | h
   ·have h1 := List.getElem?_eq_getElem h
    cases hb : bad a[i]
    ·exact .inr (.inr ⟨_,h1,hb⟩)
    ·exact .inr (.inl ⟨_,h1,hb⟩)
   ·exact .inl (by omega)
  intro _ hn7 hr7 he7
  rcases hcase with hcc | ⟨x,hx1,hb⟩ | ⟨x,hx1,hb⟩
  ·skip
   have w2 : ¬ (i : Int) < (a.length : Int) := by omega
   have e1 : findZ a bad = -1 := by
    unfold findZ
    have : a.findIdx? bad = none := by
     rw [List.findIdx?_eq_none_iff]
     intro x hx
     obtain ⟨j,hjl,rfl⟩ := List.getElem_of_mem hx
     exact hj j _ (by omega) (List.getElem?_eq_getElem hjl)
    rw [this]
   have F1 := And.intro @w2 @e1
   refine eS fun _ hn8 _ _ => ?_;refine eO fun _ hk9 => ?_;refine tZ F1 ?_;refine hk9 _ ?_;refine hn8 (some ([0,1,7,8,9],none)) _ ?_;refine eS fun _ _ _ he10 => ?_;refine eCf ?_;refine he10 0 _ ?_;refine he7 0 _ ?_;refine hx6 _ ?_;refine hn3 (some ([],none)) _ ?_;refine eS fun _ hn11 _ _ => ?_;refine eO fun _ hk12 => ?_;refine tL F1 ?_;refine hk12 _ ?_;refine hn11 (some ([4],none)) _ ?_
   exact sf1 F1
  ·skip
   have hlt := (List.getElem?_eq_some_iff.1 hx1).1
   have w2 : (i : Int) < (a.length : Int) := by omega
   have kf := hf x
   rw [hb] at kf
   have e1 : findZ a bad = (i : Int) := by
    unfold findZ
    have : a.findIdx? bad = some i := by
     rw [List.findIdx?_eq_some_iff_getElem]
     refine ⟨hlt,by rw [(List.getElem?_eq_some_iff.1 hx1).2]; exact hb,fun j hji => ?_⟩
     rw [hj j _ hji (List.getElem?_eq_getElem (by omega))]; decide
    rw [this]
   have F2 := And.intro @w2 (And.intro @hx1 @e1)
   refine eS fun _ hn13 _ _ => ?_;refine eO fun _ hk14 => ?_;refine tZ F2 ?_;refine hk14 _ ?_;refine hn13 (some ([0,1,7,8,9],none)) _ ?_;refine eS fun _ hn15 _ _ => ?_;refine eCt ?_;refine hn15 (some ([0,1,7,8],none)) _ ?_;refine eS fun _ _ hr16 _ => ?_;refine eB fun _ _ _ hr17 _ => ?_;refine eS fun _ hn18 _ _ => ?_;refine eO fun _ hk19 => ?_;refine tL F2 ?_;refine hk19 _ ?_;refine hn18 (some ([0,1,5,7,8],none)) _ ?_;refine eS fun _ hn20 _ _ => ?_;refine eO fun _ hk21 => ?_;refine tC 4 F2 ?_;refine tC 1 F2 ?_;refine tL F2 ?_;refine Or.inl ⟨hE,_,kf,?_⟩;refine hk21 _ ?_;refine hn20 (some ([0,1,5,7,8,16],none)) _ ?_;refine eCt ?_;refine eS fun _ hn22 _ _ => ?_;refine eO fun _ hk23 => ?_;refine tL F2 ?_;refine hk23 _ ?_;refine hn22 (some ([4],none)) _ ?_;refine hr17 _ ?_;refine hr16 _ ?_;refine hr7 _ ?_;refine hr6 _ ?_;refine hr3 _ ?_
   exact sf1 F2
  ·skip
   have hlt := (List.getElem?_eq_some_iff.1 hx1).1
   have w2 : (i : Int) < (a.length : Int) := by omega
   have w3 : IntKind.i64.wrap ((i : Int) + 1) = ((i + 1 : Nat) : Int) := by rw [IntKind.wrap_i64]; omega
   have kf := hf x
   rw [hb] at kf
   have F3 := And.intro @w2 (And.intro @w3 @hx1)
   refine eS fun _ hn24 _ _ => ?_;refine eO fun _ hk25 => ?_;refine tZ F3 ?_;refine hk25 _ ?_;refine hn24 (some ([0,1,7,8,9],none)) _ ?_;refine eS fun _ hn26 _ _ => ?_;refine eCt ?_;refine hn26 (some ([0,1,7,8],none)) _ ?_;refine eS fun _ hn27 _ _ => ?_;refine eB fun _ hn28 _ _ _ => ?_;refine eS fun _ hn29 _ _ => ?_;refine eO fun _ hk30 => ?_;refine tL F3 ?_;refine hk30 _ ?_;refine hn29 (some ([0,1,5,7,8],none)) _ ?_;refine eS fun _ hn31 _ _ => ?_;refine eO fun _ hk32 => ?_;refine tC 4 F3 ?_;refine tC 1 F3 ?_;refine tL F3 ?_;refine Or.inl ⟨hE,_,kf,?_⟩;refine hk32 _ ?_;refine hn31 (some ([0,1,5,7,8,16],none)) _ ?_;refine eCf ?_;refine hn28 _ ?_;refine hn27 (some ([0,1,7,8],none)) _ ?_;refine eO fun _ hk33 => ?_;refine tC 1 F3 ?_;refine tL F3 ?_;refine hk33 _ ?_;refine hn7 (a.length - (i + 1)) (some ([0,1,7,8],none)) _ ?_ ?_
   all_goals try refine lp0 ?_
   ·omega
   ·refine ⟨i + 1,by omega,rfl,fun j y hj2 hy => ?_,rfl⟩
    rcases Nat.lt_or_ge j i with h | h
    ·exact hj j y h hy
    ·obtain rfl : j = i := by omega
     rw [hx1] at hy; cases hy; exact hb
theorem findZ_any (a : List Int) (bad : Int → Bool) : decide (findZ a bad ≥ 0) = a.any bad := by
 unfold findZ
 cases h : a.findIdx? bad with
 | none =>
  have h1 := List.findIdx?_eq_none_iff.1 h
  rw [show a.any bad = false from List.any_eq_false.2 fun x hx => by rw [h1 x hx]; decide]
  rfl
 | some i =>
  obtain ⟨h1,h2,_⟩ := List.findIdx?_eq_some_iff_getElem.1 h
  rw [show a.any bad = true from List.any_eq_true.2 ⟨_,List.getElem_mem h1,h2⟩]
  exact decide_eq_true (show (i : Int) ≥ 0 by omega)
theorem ok_containsInt (g : Nat) (f : FuncId) (cap : List Sh) (a : List Int) (bad : Int → Bool) (hn : a.length ≤ 1000000) (hE : Enters f) (hf : ∀ x,Ok f (sI x :: cap) (sB (bad x))) : Ok 56 [.sl 1 g (a.map eZ),.fn (.func f) [] cap] (sB (a.any bad)) := by
 refine ok_of_tr Tryz.func56 tr_containsInt rfl ?_
 have k0 := ok_indexInt g f cap a bad hn hE hf
 have e1 := findZ_any a bad
 generalize a.any bad = R at e1
 generalize findZ a bad = z at e1 k0
 unfold evFn sc_containsInt rv_containsInt
 have F1 := @e1
 refine eS fun _ hn1 _ _ => ?_;refine eO fun _ hk2 => ?_;refine tL F1 ?_;refine hk2 _ ?_;refine hn1 (some ([0,1],none)) _ ?_;refine eS fun _ hn3 _ _ => ?_;refine eO fun _ hk4 => ?_;refine tS 2 F1 ?_;refine tS 1 F1 ?_;refine Or.inl (Or.inl ⟨_,k0,?_⟩);refine tC 1 F1 ?_;refine tL F1 ?_;refine hk4 _ ?_;refine hn3 (some ([4],none)) _ ?_
 exact sf1 F1
theorem enters_arMark1 : Enters 57 := callFunc_enter Tryz.func57 rfl rfl
def badU (l : LayV) (x : Int) : Bool := decide (x < 0) || decide (l.blocks ≤ x)
theorem ok_arMark_arg {l : LayV} (g : Nat) (ws : List WordV) (us : Sh) (h : ¬ (checkL l = 0 ∧ fromL l 7 ≤ (ws.length : Int))) : Ok 28 [.agg (eLay l),.sl 3 g (ws.map eWord),us] (.tup [.sl 3 g (ws.map eWord),sI 1]) := by
 refine ok_of_tr Tryz.func28 tr_arMark rfl ?_
 have k0 := ok_arRight l g ws
 rw [decide_eq_false h] at k0
 unfold evFn sc_arMark rv_arMark
 refine eS fun _ hn1 _ _ => ?_;refine eO fun _ hk2 => ?_;refine tL0 ?_;refine hk2 _ ?_;refine hn1 (some ([1,2,3],none)) _ ?_;refine eS fun _ _ hr3 _ => ?_;refine eB fun _ _ _ hr4 _ => ?_;refine eS fun _ hn5 _ _ => ?_;refine eO fun _ hk6 => ?_;refine tC0 1 ?_;refine tS0 1 ?_;refine tS0 1 ?_;refine Or.inl (Or.inl ⟨_,k0,?_⟩);refine tL0 ?_;refine hk6 _ ?_;refine hn5 (some ([1,2,3,16],none)) _ ?_;refine eCt ?_;refine eS fun _ hn7 _ _ => ?_;refine eO fun _ hk8 => ?_;refine tL0 ?_;refine hk8 _ ?_;refine hn7 (some ([6,7],none)) _ ?_;refine hr4 _ ?_;refine hr3 _ ?_
 exact sf0
theorem ok_arMark_range {l : LayV} (hl : checkL l = 0) (g g2 : Nat) (ws : List WordV) (xs : List Int) (hw : fromL l 7 ≤ (ws.length : Int)) (hn : xs.length ≤ 1000000) (h : xs.any (badU l) = true) : Ok 28 [.agg (eLay l),.sl 3 g (ws.map eWord),.sl 1 g2 (xs.map eZ)] (.tup [.sl 3 g (ws.map eWord),sI 3]) := by
 refine ok_of_tr Tryz.func28 tr_arMark rfl ?_
 have k0 := ok_arRight l g ws
 rw [decide_eq_true ⟨hl,hw⟩] at k0
 have k1 := ok_containsInt g2 57 [.fp (eLay l) 0] xs (badU l) hn enters_arMark1 (fun x => ok_arMark1 l x)
 rw [h] at k1
 unfold evFn sc_arMark rv_arMark
 refine eS fun _ hn1 _ _ => ?_;refine eO fun _ hk2 => ?_;refine tL0 ?_;refine hk2 _ ?_;refine hn1 (some ([1,2,3],none)) _ ?_;refine eS fun _ _ hr3 _ => ?_;refine eB fun _ _ _ hr4 _ => ?_;refine eS fun _ hn5 _ _ => ?_;refine eO fun _ hk6 => ?_;refine tC0 1 ?_;refine tS0 1 ?_;refine tS0 1 ?_;refine Or.inl (Or.inl ⟨_,k0,?_⟩);refine tL0 ?_;refine hk6 _ ?_;refine hn5 (some ([1,2,3,16],none)) _ ?_;refine eCf ?_;refine eS fun _ hn7 _ _ => ?_;refine eO fun _ hk8 => ?_;refine tS0 2 ?_;refine tS0 1 ?_;refine Or.inl (Or.inl ⟨_,k1,?_⟩);refine tL0 ?_;refine hk8 _ ?_;refine hn7 (some ([1,2,3,22],none)) _ ?_;refine eCt ?_;refine eS fun _ hn9 _ _ => ?_;refine eO fun _ hk10 => ?_;refine tL0 ?_;refine hk10 _ ?_;refine hn9 (some ([6,7],none)) _ ?_;refine hr4 _ ?_;refine hr3 _ ?_
 exact sf0
def M1Inv (l : LayV) (g2 : Nat) (ws : List WordV) (us : List Nat) (k : Nat) (S : St) : Prop :=
 ∃ i : Nat,i ≤ l.blocks.toNat ∧ k = l.blocks.toNat - i ∧ S = ⟨[(2,.sl 1 g2 (us.map eU)),(3,.ptr 0 0 0),(8,.own 1),(30,sI l.blocks),(31,sI i)],[(0,.frz (.fp (eLay l) 0)),(1,.row 79 3 ((clearW l ws i).map eWord))],2⟩
def M2Inv (l : LayV) (g2 : Nat) (ws : List WordV) (us : List Nat) (k : Nat) (S : St) : Prop :=
 ∃ i : Nat,i ≤ us.length ∧ k = us.length - i ∧ S = ⟨[(3,.ptr 0 0 0),(8,.own 1),(45,.sl 1 g2 (us.map eU)),(46,sI us.length),(47,sI i)],[(0,.frz (.fp (eLay l) 0)),(1,.row 79 3 (((us.take i).foldl (orW l) (clearW l ws l.blocks.toNat)).map eWord))],2⟩
set_option maxHeartbeats 8000000 in
theorem ok_arMark {l : LayV} (hl : checkL l = 0) (g g2 : Nat) (ws : List WordV) (us : List Nat) (hw : fromL l 7 ≤ (ws.length : Int)) (hw2 : ws.length ≤ 1000000) (hn : us.length ≤ 1000000) (hu : ∀ u ∈ us,u < l.blocks.toNat) : Ok 28 [.agg (eLay l),.sl 3 g (ws.map eWord),.sl 1 g2 (us.map eU)] (.tup [.sl 3 0 ((markW l ws us).map eWord),sI 0]) := by
 refine ok_of_tr Tryz.func28 tr_arMark rfl ?_
 have k0 := ok_arRight l g ws
 rw [decide_eq_true ⟨hl,hw⟩] at k0
 have hmm : us.map eU = (us.map (fun u : Nat => (u : Int))).map eZ := by rw [List.map_map]; rfl
 have k1 := ok_containsInt g2 57 [.fp (eLay l) 0] (us.map (fun u : Nat => (u : Int))) (badU l) (by simp; omega) enters_arMark1 (fun x => ok_arMark1 l x)
 rw [← hmm,show (us.map (fun u : Nat => (u : Int))).any (badU l) = false from List.any_eq_false.2 fun x hx => by
  obtain ⟨u,h1,rfl⟩ := List.mem_map.1 hx
  have := hu u h1
  unfold badU
  simp; omega] at k1
 have hb := (checkL_zero hl).1.2.2
 have kb := fun i hi => ok_layBits hl i hi
 have hbp : ∀ i : Nat,(i : Int) < l.blocks → ∃ b : Nat,bitP l i = (b : Int) ∧ b < ws.length := fun i hi => by
  have h1 := bitP_ge hl i
  have h2 := bitP_lt hl hi
  exact ⟨(bitP l i).toNat,by omega,by omega⟩
 unfold markW
 unfold evFn sc_arMark rv_arMark
 refine eS fun _ hn1 _ _ => ?_;refine eO fun _ hk2 => ?_;refine tL0 ?_;refine hk2 _ ?_;refine hn1 (some ([1,2,3],none)) _ ?_;refine eS fun _ hn3 _ _ => ?_;refine eB fun _ hn4 _ _ _ => ?_;refine eS fun _ hn5 _ _ => ?_;refine eO fun _ hk6 => ?_;refine tC0 1 ?_;refine tS0 1 ?_;refine tS0 1 ?_;refine Or.inl (Or.inl ⟨_,k0,?_⟩);refine tL0 ?_;refine hk6 _ ?_;refine hn5 (some ([1,2,3,16],none)) _ ?_;refine eCf ?_;refine eS fun _ hn7 _ _ => ?_;refine eO fun _ hk8 => ?_;refine tS0 2 ?_;refine tS0 1 ?_;refine Or.inl (Or.inl ⟨_,k1,?_⟩);refine tL0 ?_;refine hk8 _ ?_;refine hn7 (some ([1,2,3,22],none)) _ ?_;refine eCf ?_;refine hn4 _ ?_;refine hn3 (some ([1,2,3],none)) _ ?_;refine eS fun _ hn9 _ _ => ?_;refine eO fun _ hk10 => ?_;refine tS0 1 ?_;refine tS0 1 ?_;refine Or.inl (Or.inr (Or.inl ⟨_,_,_,row_cloneWord g _ (by simp; omega),?_⟩));refine tL0 ?_;refine hk10 _ ?_;refine hn9 (some ([2,3,8],none)) _ ?_
 refine eS fun _ hn11 _ _ => ?_;refine eS fun _ hn12 _ _ => ?_;refine eO fun _ hk13 => ?_;refine tC0 2 ?_;refine tL0 ?_;refine hk13 _ ?_;refine hn12 (some ([2,3,8,30,31],none)) _ ?_;refine eB fun _ _ hx14 _ _ => ?_;refine eW (M1Inv l g2 ws us) (l.blocks.toNat) (some ([2,3,8,30,31],some ([0,1],2))) ([]) ?_ ?_
 ·try refine lp0 ?_
  exact ⟨0,by omega,by omega,by rfl⟩
 ·intro k S1 hI
  obtain ⟨i,hi,rfl,rfl⟩ := hI
  have hcase : (i : Int) = l.blocks ∨ (i : Int) < l.blocks := by omega
  intro _ hn15 _ he15
  rcases hcase with hcc | hcc
  ·skip
   obtain rfl : i = l.blocks.toNat := by omega
   have w2 : ¬ (l.blocks.toNat : Int) < l.blocks := by omega
   have F1 := @w2
   refine eS fun _ hn16 _ _ => ?_;refine eO fun _ hk17 => ?_;refine tZ F1 ?_;refine hk17 _ ?_;refine hn16 (some ([2,3,8,30,31,32],none)) _ ?_;refine eS fun _ _ _ he18 => ?_;refine eCf ?_;refine he18 1 _ ?_;refine he15 1 _ ?_;refine hx14 _ ?_;refine hn11 (some ([2,3,8],none)) _ ?_;refine eS fun _ hn19 _ _ => ?_;refine eS fun _ hn20 _ _ => ?_;refine eO fun _ hk21 => ?_;refine tL F1 ?_;refine hk21 _ ?_;refine hn20 (some ([3,8,45,46,47],none)) _ ?_;refine eB fun _ _ hx22 _ _ => ?_;refine eW (M2Inv l g2 ws us) (us.length) (some ([3,8,45,46,47],some ([0,1],2))) ([]) ?_ ?_
   ·try refine lp0 ?_
    exact ⟨0,by omega,by omega,by rfl⟩
   ·intro k S1 hI
    obtain ⟨i,hi,rfl,rfl⟩ := hI
    have hcase : i = us.length ∨ ∃ u,us[i]? = some u ∧ i < us.length := by
     rcases Nat.lt_or_ge i us.length with h | h
     ·exact .inr ⟨_,List.getElem?_eq_getElem h,h⟩
     ·exact .inl (by omega)
    intro _ hn23 _ he23
    rcases hcase with hcc | ⟨u,hu1,hcc⟩
    ·skip
     have w2 : ¬ (i : Int) < (us.length : Int) := by omega
     have e1 : us.take i = us := by rw [hcc,List.take_length]
     have F2 := And.intro F1 (And.intro @w2 @e1)
     refine eS fun _ hn24 _ _ => ?_;refine eO fun _ hk25 => ?_;refine tZ F2 ?_;refine hk25 _ ?_;refine hn24 (some ([3,8,45,46,47,48],none)) _ ?_;refine eS fun _ _ _ he26 => ?_;refine eCf ?_;refine he26 3 _ ?_;refine he23 3 _ ?_;refine hx22 _ ?_;refine hn19 (some ([8],none)) _ ?_;refine eS fun _ hn27 _ _ => ?_;refine eO fun _ hk28 => ?_;refine tL F2 ?_;refine hk28 _ ?_;refine hn27 (some ([6,7],none)) _ ?_
     exact sf1 F2
    ·skip
     have w3 : IntKind.i64.wrap ((i : Int) + 1) = ((i + 1 : Nat) : Int) := by rw [IntKind.wrap_i64]; omega
     have w2 : (i : Int) < (us.length : Int) := by omega
     have hub := hu u (List.mem_of_getElem? hu1)
     have kbi := kb u (by omega)
     obtain ⟨p,hp1,hp2⟩ := hbp u (by omega)
     rw [hp1] at kbi
     have hcl : ((us.take i).foldl (orW l) (clearW l ws l.blocks.toNat)).length = ws.length := by rw [foldl_len,clearW_len]
     have hts : (us.take (i + 1)).foldl (orW l) (clearW l ws l.blocks.toNat) = orW l ((us.take i).foldl (orW l) (clearW l ws l.blocks.toNat)) u := by rw [List.take_add_one,hu1,List.foldl_append]; rfl
     generalize (us.take i).foldl (orW l) (clearW l ws l.blocks.toNat) = W at hcl hts
     obtain ⟨w,hw9⟩ : ∃ w,W[p]? = some w := ⟨_,List.getElem?_eq_getElem (by omega)⟩
     have hs : ((us.take (i + 1)).foldl (orW l) (clearW l ws l.blocks.toNat)).map eWord = (W.map eWord).set p [sI (bitsI .or .i64 w.val (bitV u)),sU w.ver,sU w.ref] := by
      rw [hts,← setW_map hw9]; unfold orW; rw [hp1,Int.toNat_natCast,show wordF W (p : Int) = w by unfold wordF; rw [Int.toNat_natCast,hw9]; rfl]
     have w7 : (p : Int) < (W.length : Int) := by omega
     have w8 : p < W.length := by omega
     have F3 := And.intro F1 (And.intro @w2 (And.intro @w3 (And.intro @hu1 (And.intro @hw9 (And.intro @w7 @w8)))))
     refine eS fun _ hn29 _ _ => ?_;refine eO fun _ hk30 => ?_;refine tZ F3 ?_;refine hk30 _ ?_;refine hn29 (some ([3,8,45,46,47,48],none)) _ ?_;refine eS fun _ hn31 _ _ => ?_;refine eCt ?_;refine hn31 (some ([3,8,45,46,47],none)) _ ?_;refine eS fun _ hn32 _ _ => ?_;refine eB fun _ hn33 _ _ _ => ?_;refine eS fun _ hn34 _ _ => ?_;refine eO fun _ hk35 => ?_;refine tC 1 F3 ?_;refine tC 1 F3 ?_;refine tL F3 ?_;refine hk35 _ ?_;refine hn34 (some ([3,8,13,45,46,47],none)) _ ?_;refine eS fun _ hn36 _ _ => ?_;refine eO fun _ hk37 => ?_;refine tC 1 F3 ?_;refine tS 1 F3 ?_;refine tS 1 F3 ?_;refine Or.inl (Or.inl ⟨_,kbi,?_⟩);refine tL F3 ?_;refine hk37 _ ?_;refine hn36 (some ([3,8,14,15,45,46,47],none)) _ ?_;refine eO fun _ hk38 => ?_;refine tC 3 F3 ?_;refine tC 2 F3 ?_;refine tS 1 F3 ?_;refine tS 1 F3 ?_;refine Or.inl ⟨_,gen_bits (.inr (.inl rfl)),?_⟩;refine tC 1 F3 ?_;refine tZ F3 ?_
     refine hk38 _ ?_;refine hn33 _ ?_;refine hn32 (some ([3,8,45,46,47],none)) _ ?_;refine eO fun _ hk39 => ?_;refine tC 1 F3 ?_;refine tL F3 ?_;refine hk39 _ ?_;refine hn23 (us.length - (i + 1)) (some ([3,8,45,46,47],some ([0,1],2))) _ ?_ ?_
     all_goals try refine lp0 ?_
     ·omega
     ·exact ⟨i + 1,by omega,by omega,by rw [hs]⟩
  ·skip
   have w3 : IntKind.i64.wrap ((i : Int) + 1) = ((i + 1 : Nat) : Int) := by rw [IntKind.wrap_i64]; omega
   have kbi := kb i hcc
   obtain ⟨p,hp1,hp2⟩ := hbp i hcc
   rw [hp1] at kbi
   have hcl := clearW_len l ws i
   obtain ⟨w,hw9⟩ : ∃ w,(clearW l ws i)[p]? = some w := ⟨_,List.getElem?_eq_getElem (by omega)⟩
   have hs : (clearW l ws (i + 1)).map eWord = ((clearW l ws i).map eWord).set p [sI 0,sU w.ver,sU w.ref] := by
    have := setW_map hw9 0
    rw [← this]; unfold clearW; rw [hp1,Int.toNat_natCast]; cases i <;> rfl
   have w7 : (p : Int) < ((clearW l ws i).length : Int) := by omega
   have w8 : p < (clearW l ws i).length := by omega
   have F4 := And.intro @hcc (And.intro @w3 (And.intro @hw9 (And.intro @w7 @w8)))
   refine eS fun _ hn40 _ _ => ?_;refine eO fun _ hk41 => ?_;refine tZ F4 ?_;refine hk41 _ ?_;refine hn40 (some ([2,3,8,30,31,32],none)) _ ?_;refine eS fun _ hn42 _ _ => ?_;refine eCt ?_;refine hn42 (some ([2,3,8,30,31],none)) _ ?_;refine eS fun _ hn43 _ _ => ?_;refine eB fun _ hn44 _ _ _ => ?_;refine eS fun _ hn45 _ _ => ?_;refine eO fun _ hk46 => ?_;refine tL F4 ?_;refine hk46 _ ?_;refine hn45 (some ([2,3,8,9,30,31],none)) _ ?_;refine eS fun _ hn47 _ _ => ?_;refine eO fun _ hk48 => ?_;refine tC 1 F4 ?_;refine tS 1 F4 ?_;refine tS 1 F4 ?_;refine Or.inl (Or.inl ⟨_,kbi,?_⟩);refine tL F4 ?_;refine hk48 _ ?_;refine hn47 (some ([2,3,8,10,30,31],none)) _ ?_;refine eO fun _ hk49 => ?_;refine tC 3 F4 ?_;refine tZ F4 ?_;refine hk49 _ ?_;refine hn44 _ ?_;refine hn43 (some ([2,3,8,30,31],none)) _ ?_;refine eO fun _ hk50 => ?_;refine tC 1 F4 ?_;refine tL F4 ?_;refine hk50 _ ?_;refine hn15 (l.blocks.toNat - (i + 1)) (some ([2,3,8,30,31],some ([0,1],2))) _ ?_ ?_
   all_goals try refine lp0 ?_
   ·omega
   ·exact ⟨i + 1,by omega,by omega,by rw [hs]⟩
end Go.Proofs.YtkmbcjnaaokilaaGreatDoor
