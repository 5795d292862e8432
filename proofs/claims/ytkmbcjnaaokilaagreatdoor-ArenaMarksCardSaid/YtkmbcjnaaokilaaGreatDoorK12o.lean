/-
  Layer 12 by shadows: the example of the chapter.
-/
import Derived.Test.YtkmbcjnaaokilaaGreatDoorK12n
import Derived.Test.YtkmbcjnaaokilaaGreatDoorSc12o
namespace Go.Proofs.YtkmbcjnaaokilaaGreatDoor
set_option linter.unusedSimpArgs false
set_option linter.unusedVariables false
open Go.RowKit Go.Maps
theorem gen_neg {t : TypeId} {x : Operand} {k : IntKind} {p : Int} : GenRel (.unOp .neg t x) [x] [.v (.int k p)] (.v (.int k (k.wrap (-p)))) := gen_val fun o a w H ho hS hA => by
 cases hA with
 | cons hx hA =>
  generalize hq : a.eval x = u at hx
  cases hx
  exact ⟨_,by simp [execOp,ho,hq,Op.unary,Op.intArith],.v rfl⟩
theorem used_words {l : LayV} (hl : checkL l = 0) {N : Nat} (hN : fromL l 7 ≤ (N : Int)) (f : Int → WordV) {i : Nat} (hi : (i : Int) < l.blocks) : usedF l (wordF (wordsA N f)) i = usedF l f i := by
 have h1 := bitP_ge hl i
 have h2 := bitP_lt hl hi
 obtain ⟨p,hp⟩ := Int.eq_ofNat_of_zero_le h1
 unfold usedF wordF wordsA
 rw [hp,Int.toNat_natCast,List.getElem?_map,List.getElem?_range (by omega)]
 rfl
theorem wordsA_len (N : Nat) (f : Int → WordV) : (wordsA N f).length = N := by simp [wordsA]
structure MkP (s : ArM) (O : List (Nat × Ob)) (n : Nat) (x : ArL) (O' : List (Nat × Ob)) (n' : Nat) : Prop where
 own : ArO s x O' n'
 fr : ArF none O n O' n'
 new : n < x.i ∧ n < x.g
theorem MkP.of {s : ArM} {O O' : List (Nat × Ob)} {n n' : Nat} {x : ArL} (h1 : ArO s x O' n') (h2 : ArF none O n O' n') (h3 : n < x.i) (h4 : n < x.g) : MkP s O n x (delA O' n) n' :=
 ⟨ArO.to h1 (Nat.le_refl _) (by rw [getA_delO,if_neg (by omega)]) (by rw [getA_delO,if_neg (by omega)]),⟨h2.le,fun e he hx => by rw [getA_delO,if_neg (by omega)]; exact h2.old e he hx⟩,h3,h4⟩
theorem mk_memA {Bl : List (Nat × Sh)} {V : ArL → List (Nat × (Nat × Sh))} {late : List Nat} {s : ArM} {O : List (Nat × Ob)} {n : Nat} {done : List Nat} {S : St} {x : ArL} (h : RgC Bl V late 6 O n (MkP s O n) done S x) {e : Nat} {Y : Ob} (h2 : e < n) (hX : getA O e = some Y) : getA S.O e = some Y := by
 cases hc : done.contains 6 with
 | false => rw [(h.pre hc).1]; exact hX
 | true => rw [(h.post hc).fr.old e h2 (by simp)]; exact hX
def awL : LayV := ⟨1,8,40⟩
theorem awL_ok : checkL awL = 0 := by decide
abbrev awA : List (List Sh) := [[sI 5],[sI 5],[sI (-5)],[sI (-5)],[sI 39],[sI 39]]
abbrev awB : List (List Sh) := [[sI 5],[sI 6],[sI 5],[sI 5],[sI 39],[sI 0]]
def awU : Nat → List Nat
 | 0 => []
 | 1 => [5]
 | 2 => [5,6]
 | 3 => [6]
 | 4 => [6]
 | 5 => [6,39]
 | _ => [0,6,39]
structure AwW (i : Nat) (ws : List WordV) : Prop where
 len : ws.length = 1424
 bits : ∀ c,c < 40 → usedF awL (wordF ws) c = (awU i).contains c
inductive AwStep (i : Nat) (ws : List WordV) : Prop
 | e (h : i = 6)
 | t (a b : Nat) (h1 : awA[i]? = some [sI a]) (h2 : awB[i]? = some [sI b]) (h3 : a < 40) (h4 : (13 == (0 : Int)) = ((i : Int) == 3)) (h5 : takeU (usedF awL (wordF ws)) 40 a = some b) (h6 : AwW (i + 1) (wordsA 1424 (setB awL (wordF ws) b))) (h7 : i < 6)
 | g (h1 : i = 2) (h2 : usedF awL (wordF ws) 5 = true) (h6 : AwW 3 (wordsA 1424 (clrB awL (wordF ws) 5)))
 | f (h1 : i = 3) (h2 : usedF awL (wordF ws) 5 = false) (h6 : AwW 4 (wordsA 1424 (wordF ws)))
theorem freeU_congr2 {U V : Nat → Bool} {B a : Nat} (ha : a ≤ B) (h : ∀ i,i < B → U i = V i) : takeU U B a = takeU V B a := by
 unfold takeU
 rw [freeU_congr (B - a) a fun i h1 h2 => h i (by omega),freeU_congr a 0 fun i h1 h2 => h i (by omega)]
theorem aw_size : fromL awL 7 = 1424 := by decide
theorem aw_used {f : Int → WordV} {c : Nat} (hc : c < 40) : usedF awL (wordF (wordsA 1424 f)) c = usedF awL f c := used_words awL_ok (by rw [aw_size]; decide) f (by show (c : Int) < 40; omega)
theorem aw_take {i a b : Nat} {ws : List WordV} (h : AwW i ws) (h1 : awA[i]? = some [sI a]) (h2 : awB[i]? = some [sI b]) (h3 : a < 40) (h4 : (13 == (0 : Int)) = ((i : Int) == 3)) (h7 : i < 6) (h5 : takeU (fun c => (awU i).contains c) 40 a = some b) (h6 : ∀ c,c < 40 → ((awU i).contains c || decide (b = c)) = (awU (i + 1)).contains c) : AwStep i ws := by
 refine .t a b h1 h2 h3 h4 ?_ ⟨wordsA_len _ _,fun c hc => ?_⟩ h7
 ·rw [freeU_congr2 (by omega) h.bits]; exact h5
 ·rw [aw_used hc,used_set,h.bits c hc]; exact h6 c hc
theorem aw_step {i : Nat} {ws : List WordV} (hi : i ≤ 6) (h : AwW i ws) : AwStep i ws := by
 have hcase : i = 0 ∨ i = 1 ∨ i = 2 ∨ i = 3 ∨ i = 4 ∨ i = 5 ∨ i = 6 := by omega
 rcases hcase with rfl | rfl | rfl | rfl | rfl | rfl | rfl
 ·exact aw_take (a := 5) (b := 5) h rfl rfl (by decide) (by decide) (by decide) (by decide) (by decide)
 ·exact aw_take (a := 5) (b := 6) h rfl rfl (by decide) (by decide) (by decide) (by decide) (by decide)
 ·refine .g rfl ?_ ⟨wordsA_len _ _,fun c hc => ?_⟩
  ·rw [h.bits 5 (by decide)]; rfl
  ·rw [aw_used hc,used_clr,h.bits c hc]
   have : ∀ c,c < 40 → ((awU 2).contains c && !decide (5 = c)) = (awU 3).contains c := by decide
   exact this c hc
 ·refine .f rfl ?_ ⟨wordsA_len _ _,fun c hc => ?_⟩
  ·rw [h.bits 5 (by decide)]; rfl
  ·rw [aw_used hc,h.bits c hc]; rfl
 ·exact aw_take (a := 39) (b := 39) h rfl rfl (by decide) (by decide) (by decide) (by decide) (by decide)
 ·exact aw_take (a := 39) (b := 0) h rfl rfl (by decide) (by decide) (by decide) (by decide) (by decide)
 ·exact .e rfl
theorem aw_first : AwW 0 (firstM awL) := by
 refine ⟨by rw [firstM_len,aw_size]; rfl,fun c hc => ?_⟩
 rw [first_used awL_ok (by show (c : Int) < 40; omega)]; rfl
def AwInv (J : Hp → Env → Prop) (n : Nat) (k : Nat) (S : St) : Prop :=
 ∃ (i : Nat) (ws : List WordV) (O1 : List (Nat × Ob)) (n1 : Nat),i ≤ 6 ∧ k = 6 - i ∧ AwW i ws ∧ n + 2 ≤ n1 ∧ getA O1 n = some (.gh J) ∧ getA O1 (n + 1) = some (.box 25 (eLay awL)) ∧
  S = ⟨[(1,.ptr (n + 1) 0 0),(2,.sl 3 0 (ws.map eWord)),(3,.sl 1 0 awA),(4,.sl 1 0 awB),(5,sI i)],O1,n1⟩
abbrev awBl (n : Nat) (ws : List WordV) (i : Nat) : List (Nat × Sh) := [(1,.ptr (n + 1) 0 0),(2,.sl 3 0 (ws.map eWord)),(3,.sl 1 0 awA),(4,.sl 1 0 awB),(5,sI i)]
abbrev awV0 (i : Nat) (a m : Int) (e : List Sh) : List (Nat × (Nat × Sh)) := [(24,0,.agg (eLay awL)),(25,1,.sl 1 0 awA),(26,2,sI i),(27,3,.fp e 0),(28,4,sI a),(29,5,sI m)]
abbrev awV1 (i : Nat) (a m : Int) (e : List Sh) : List (Nat × (Nat × Sh)) := [(39,0,.agg (eLay awL)),(40,1,.sl 1 0 awA),(41,2,sI i),(42,3,.fp e 0),(43,4,sI a),(44,5,sI m)]
abbrev awW0 (s : ArM) (x : ArL) : List (Nat × (Nat × Sh)) := [(30,6,.tup [eAr s x,sI 0]),(23,7,.tup [eAr s x,sI 0]),(31,8,eAr s x),(32,9,sI 0),(6,10,eAr s x),(7,11,sI 0)]
abbrev awW1 (s : ArM) (x : ArL) : List (Nat × (Nat × Sh)) := [(45,6,.tup [eAr s x,sI 0]),(38,7,.tup [eAr s x,sI 0]),(46,8,eAr s x),(47,9,sI 0),(6,10,eAr s x),(7,11,sI 0)]
abbrev awWt : List (List Nat) := [[],[],[],[1,2],[3],[4],[0,5],[6],[7],[7],[8,6,0,1,2,3,4,5,6,7,8],[9,10,0,1,2,3,4,5,6,7,8,9,10]]
set_option maxHeartbeats 8000000 in
set_option maxRecDepth 20000 in
theorem okO_l12awake (O : List (Nat × Ob)) (n : Nat) : OkO 8 [] O n (fun _ r _ _ => r = sB true) := by
 refine okO_of_trC Tryz.func8 tr_l12awakeO rfl fun J => ?_
 have hid := oid n
 have kF := ok_layFirst awL awL_ok
 have hw0 := aw_first
 generalize firstM awL = ws0 at kF hw0
 unfold sc_l12awakeO rv_l12awakeO
 have F1 := @hid
 refine eS fun _ hn1 _ _ => ?_;refine eO fun _ hk2 => ?_;refine tL F1 ?_;refine hk2 _ ?_;refine hn1 (some ([],none)) _ ?_;refine eS fun _ hn3 _ _ => ?_;refine eO fun _ hk4 => ?_;refine tZ F1 ?_;refine hk4 _ ?_;refine hn3 (some ([1],none)) _ ?_;refine eS fun _ hn5 _ _ => ?_;refine eO fun _ hk6 => ?_;refine tC 1 F1 ?_;refine tS 1 F1 ?_;refine Or.inl (Or.inl ⟨_,kF,?_⟩);refine tL F1 ?_;refine hk6 _ ?_;refine hn5 (some ([1,2],none)) _ ?_;refine eS fun _ hn7 _ _ => ?_;refine eO fun _ hk8 => ?_;refine tC 1 F1 ?_;refine tL F1 ?_;refine hk8 _ ?_;refine hn7 (some ([1,2,3],none)) _ ?_;refine eS fun K9 hn9 _ _ => ?_;refine eO fun _ hk10 => ?_;refine tC 1 F1 ?_;refine tL F1 ?_;refine hk10 _ ?_;refine hn9 (some ([1,2,3,4],none)) _ ?_;refine eS fun _ hn11 _ _ => ?_;refine eS fun _ hn12 _ _ => ?_;refine eO fun _ hk13 => ?_;refine tL F1 ?_;refine hk13 _ ?_;refine hn12 (some ([1,2,3,4,5],none)) _ ?_
 refine eB fun _ _ hx14 _ _ => ?_;refine eW (AwInv J n) (6) (some ([1,2,3,4,5],none)) ([]) ?_ ?_
 ·try refine lp0 ?_
  refine ⟨0,ws0,_,_,by omega,by omega,hw0,by omega,?_,?_,rfl⟩
  ·simp [getA]
  ·simp [getA,awL]
 ·intro k S1 hI
  obtain ⟨i,ws,O1,n1,hi,rfl,hW,hle,a0,a1,rfl⟩ := hI
  have hid1 := oid n1
  have d0 := odl (n := n1) (d := n) (by omega)
  have d1 := odl (n := n1) (d := n + 1) (by omega)
  have hst := aw_step hi hW
  have hlen := hW.len
  intro _ hn15 _ he15
  rcases hst with rfl | ⟨a,b,hA1,hB1,hab,h13,htk,hW2,hi6⟩ | ⟨rfl,hu,hW2⟩ | ⟨rfl,hu,hW2⟩
  ·skip
   have kU := ok_arUsed awL_ok 0 ws (by rw [aw_size,hlen]; decide)
   have eU2 : usedL awL (wordF ws) = [0,6,39] := by
    have e1 : (List.range 40).filter (usedF awL (wordF ws)) = (List.range 40).filter (fun c => (awU 6).contains c) := List.filter_congr fun c hc => hW.bits c (List.mem_range.1 hc)
    show (List.range 40).filter _ = _
    rw [e1]; rfl
   rw [eU2] at kU
   have kS := ok_r12Same 0 0 [0,6,39] [0,6,39] (by decide) (by decide)
   have F2 := And.intro F1 (And.intro @hid1 (And.intro @d0 (And.intro @d1 (And.intro @a0 @a1))))
   refine eS fun _ _ _ he16 => ?_;refine eS fun _ hn17 _ _ => ?_;refine eO fun _ hk18 => ?_;refine tS 3 F2 ?_;refine tZ F2 ?_;refine hk18 _ ?_;refine hn17 (some ([1,2,3,4,5,20],none)) _ ?_;refine eCf ?_;refine he16 0 _ ?_;refine he15 0 _ ?_;refine hx14 _ ?_;refine hn11 (some ([1,2],none)) _ ?_;refine eS fun _ hn19 _ _ => ?_;refine eO fun _ hk20 => ?_;refine tC 1 F2 ?_;refine tS 1 F2 ?_;refine tS 1 F2 ?_;refine Or.inl (Or.inl ⟨_,kU,?_⟩);refine tC 1 F2 ?_;refine tS 1 F2 ?_;refine Or.inl (Or.inl ⟨_,kS,?_⟩);refine tL F2 ?_;refine hk20 _ ?_;refine hn19 (some ([0],none)) _ ?_
   first | refine finO_ret (sgE1 F2) (sgE1 F2) (sgE1 F2) ?_ | refine finO_next (sgE1 F2) (sgE1 F2) (sgE1 F2) ?_
   try dsimp only
   rfl
  ·skip
   have wi0 : (0 : Int) ≤ (i : Int) := by omega
   have w2 : (i : Int) < ((6 : Nat) : Int) := by omega
   have w3 : IntKind.i64.wrap ((i : Int) + 1) = ((i + 1 : Nat) : Int) := by rw [IntKind.wrap_i64]; omega
   have wm : max (a : Int) 0 = (a : Int) := by omega
   have wn : ¬ (a : Int) < 0 := by omega
   have kT := ok_arTake awL_ok a (by show (a : Int) < 40; omega)
   obtain ⟨X,hX,hXl,hXc⟩ := solo_take awL_ok (a := a) (by show (a : Int) < 40; omega) (wordF ws)
   have hXb : blockA X.s = ((b : Int),0,true) ∧ X.f = setB awL (wordF ws) b := by
    rcases hXc with ⟨b',h1,h2,h3⟩ | ⟨h1,_⟩
    ·have h1 : takeU (usedF awL (wordF ws)) 40 a = some b' := h1
     rw [htk] at h1; cases h1; exact ⟨h2,h3⟩
    ·have h1 : takeU (usedF awL (wordF ws)) 40 a = none := h1
     rw [htk] at h1; cases h1
   have wb : ((b : Int) != (b : Int)) = false := by simp
   have wx : ((i : Int) == 3) = false := by rw [← h13]; rfl
   have F3 := And.intro F1 (And.intro @hid1 (And.intro @d0 (And.intro @d1 (And.intro @a0 (And.intro @a1 (And.intro @w2 (And.intro @w3 (And.intro @hA1 (And.intro @hB1 (And.intro @wi0 (And.intro @wn (And.intro @wb @wx))))))))))))
   refine eS fun _ hn21 _ _ => ?_;refine eS fun _ hn22 _ _ => ?_;refine eO fun _ hk23 => ?_;refine tS 3 F3 ?_;refine tZ F3 ?_;refine hk23 _ ?_;refine hn22 (some ([1,2,3,4,5,20],none)) _ ?_;refine eCt ?_;refine hn21 (some ([1,2,3,4,5],none)) _ ?_;refine eS fun _ hn24 _ _ => ?_;refine eB fun _ hn25 _ _ _ => ?_;refine eS fun _ hn26 _ _ => ?_;refine eCflP ([]) (fun done S => Closed awWt done ∧ ∃ x,RgC (awBl n ws i) (fun x => awV0 i a a [sI a] ++ awW0 (.tk (takeM awL a)) x) [7,8,9,10,11] 6 O1 n1 (MkP (.tk (takeM awL a)) O1 n1) done S x) (fun S => ∃ x O9 n9,S = ⟨[(1,.ptr (n + 1) 0 0),(2,.sl 3 0 (ws.map eWord)),(3,.sl 1 0 awA),(4,.sl 1 0 awB),(5,sI i),(6,eAr (.tk (takeM awL a)) x),(7,sI 0)],O9,n9⟩ ∧ MkP (.tk (takeM awL a)) O1 n1 x O9 n9) ?_ ?_ ?_ ?_
   ·skip
    refine ⟨closed_nil _,⟨0,0,0,.any⟩,RgC.init (fun t v h => ?_) rfl rfl⟩
    simp only [getA] at h
    simp only [St.casts,St.keep,keepT,getA,reduceIte,Nat.reduceEqDiff]
    repeat' split at h
    all_goals first | (rename_i e9; subst e9; exact h) | cases h
   ·skip
    intro done S i0 ⟨hc,x,hI⟩ hr
    have hi9 := rdyN_lt hr
    have hnr := rdyN_not hr
    have b1 := hI.base 1 _ rfl
    have b3 := hI.base 3 _ rfl
    have b5 := hI.base 5 _ rfl
    have mL := mk_memA hI (e := n + 1) (by omega) a1
    have hgot := fun t j v h h2 => hI.got t j v h h2
    have hpx := fun x => plainF (plain_eAr (.tk (takeM awL a)) x)
    have hcase : i0 = 0 ∨ i0 = 1 ∨ i0 = 2 ∨ i0 = 3 ∨ i0 = 4 ∨ i0 = 5 ∨ i0 = 6 ∨ i0 = 7 ∨ i0 = 8 ∨ i0 = 9 ∨ i0 = 10 ∨ i0 = 11 := by simp at hi9; omega
    rcases hcase with rfl | rfl | rfl | rfl | rfl | rfl | rfl | rfl | rfl | rfl | rfl | rfl
    ·skip
     have F9 := And.intro b1 mL
     refine cfOpN rfl fun K9 hk9 => ?_;refine sh1 F9 ?_;refine sd ?_;refine hk9 _ ?_
     exact ⟨hc.cons hr,x,hI.put (i := 0) (t := 24) rfl rfl rfl (by decide) (fun h => by cases h)⟩
    ·skip
     have F9 := b3
     refine cfOpN rfl fun K9 hk9 => ?_;refine sh1 F9 ?_;refine hk9 _ ?_
     exact ⟨hc.cons hr,x,hI.put (i := 1) (t := 25) rfl rfl rfl (by decide) (fun h => by cases h)⟩
    ·skip
     have F9 := b5
     refine cfOpN rfl fun K9 hk9 => ?_;refine sh1 F9 ?_;refine hk9 _ ?_
     exact ⟨hc.cons hr,x,hI.put (i := 2) (t := 26) rfl rfl rfl (by decide) (fun h => by cases h)⟩
    ·skip
     have hw := rdyN_wait hr rfl
     have g1 := hgot 25 1 _ rfl (hw 1 rfl)
     have g2 := hgot 26 2 _ rfl (hw 2 rfl)
     have F9 := And.intro g1 (And.intro g2 (And.intro wi0 hA1))
     refine cfOpN rfl fun K9 hk9 => ?_;refine sh1 F9 ?_;refine sd ?_;refine hk9 _ ?_
     exact ⟨hc.cons hr,x,hI.put (i := 3) (t := 27) rfl rfl rfl (by decide) (fun h => by cases h)⟩
    ·skip
     have hw := rdyN_wait hr rfl
     have g1 := hgot 27 3 _ rfl (hw 3 rfl)
     have F9 := g1
     refine cfOpN rfl fun K9 hk9 => ?_;refine sh1 F9 ?_;refine hk9 _ ?_
     exact ⟨hc.cons hr,x,hI.put (i := 4) (t := 28) rfl rfl rfl (by decide) (fun h => by cases h)⟩
    ·skip
     have hw := rdyN_wait hr rfl
     have g1 := hgot 28 4 _ rfl (hw 4 rfl)
     have F9 := And.intro g1 wm
     refine cfOpN rfl fun K9 hk9 => ?_;refine sh1 F9 ?_;refine hk9 _ ?_
     exact ⟨hc.cons hr,x,hI.put (i := 5) (t := 29) rfl rfl rfl (by decide) (fun h => by cases h)⟩
    ·have hw := rdyN_wait hr rfl
     have g1 := hgot 24 0 _ rfl (hw 0 rfl)
     have g2 := hgot 29 5 _ rfl (hw 5 rfl)
     obtain ⟨T9,O9,n9⟩ := S
     obtain ⟨e1,e2⟩ := hI.pre hnr
     dsimp only at e1 e2
     subst e1 e2
     dsimp only at g1 g2
     refine cfOpN rfl fun K9 hk9 => ?_;refine Or.inr (evCallO_mk (kT _ _) (by simp only [St.opdL,St.opd,g1,g2,St.res,Option.map_some,Option.bind_some]) fun J9 r9 O8 n8 hP9 => ?_)
     obtain ⟨x9,rfl,q1,q2,q3,q4⟩ := hP9
     refine hk9 _ ?_
     exact ⟨hc.cons hr,x9,hI.call2 (t := 30) hnr rfl rfl rfl rfl (MkP.of q1 q2 q3 q4)⟩
    ·skip
     have hw := rdyN_wait hr rfl
     have g1 := hgot 30 6 _ rfl (hw 6 rfl)
     have F9 := g1
     refine cfOpN rfl fun K9 hk9 => ?_;refine sh1 F9 ?_;refine hk9 _ ?_
     exact ⟨hc.cons hr,x,hI.put (i := 7) (t := 23) rfl rfl rfl (by decide) (fun _ => hw 6 rfl)⟩
    ·skip
     have hw := rdyN_wait hr rfl
     have h6 := hc 7 _ (hw 7 rfl) rfl 6 rfl
     have g1 := hgot 23 7 _ rfl (hw 7 rfl)
     have F9 := And.intro g1 (hpx x)
     refine cfOpN rfl fun K9 hk9 => ?_;refine sh1 F9 ?_;refine hk9 _ ?_
     exact ⟨hc.cons hr,x,hI.put (i := 8) (t := 31) rfl rfl rfl (by decide) (fun _ => h6)⟩
    ·skip
     have hw := rdyN_wait hr rfl
     have h6 := hc 7 _ (hw 7 rfl) rfl 6 rfl
     have g1 := hgot 23 7 _ rfl (hw 7 rfl)
     have F9 := And.intro g1 (hpx x)
     refine cfOpN rfl fun K9 hk9 => ?_;refine sh1 F9 ?_;refine hk9 _ ?_
     exact ⟨hc.cons hr,x,hI.put (i := 9) (t := 32) rfl rfl rfl (by decide) (fun _ => h6)⟩
    ·skip
     have hw := rdyN_wait hr rfl
     have g1 := hgot 31 8 _ rfl (hw 8 rfl)
     have F9 := And.intro g1 (hpx x)
     refine cfOpN rfl fun K9 hk9 => ?_;refine sh1 F9 ?_;refine hk9 _ ?_
     exact ⟨hc.cons hr,x,hI.put (i := 10) (t := 6) rfl rfl rfl (by decide) (fun _ => hw 6 rfl)⟩
    ·skip
     have hw := rdyN_wait hr rfl
     have g1 := hgot 32 9 _ rfl (hw 9 rfl)
     have F9 := g1
     refine cfOpN rfl fun K9 hk9 => ?_;refine sh1 F9 ?_;refine hk9 _ ?_
     exact ⟨hc.cons hr,x,hI.put (i := 11) (t := 7) rfl rfl rfl (by decide) (fun _ => hw 6 rfl)⟩
   ·skip
    rintro done S ⟨hc,x,hI⟩ hall
    have t1 := hI.base 1 _ rfl
    have t2 := hI.base 2 _ rfl
    have t3 := hI.base 3 _ rfl
    have t4 := hI.base 4 _ rfl
    have t5 := hI.base 5 _ rfl
    have t6 := hI.got 6 10 _ rfl (hall 10 (by decide))
    have t7 := hI.got 7 11 _ rfl (hall 11 (by decide))
    obtain ⟨u1,u2,u3⟩ := hI.post (hall 6 (by decide))
    have hs9 : ∀ e,getA (srtO S.O) e = getA S.O e := fun e => getA_srtO _ _
    refine ⟨some ([1,2,3,4,5,6,7],none),x,srtO S.O,S.n,?_,⟨ArO.to u1 (Nat.le_refl _) (hs9 _) (hs9 _),⟨u2.le,fun e he hx => (hs9 e).trans (u2.old e he hx)⟩,u3⟩⟩
    show St.mk (keepT S.T [1,2,3,4,5,6,7]) _ _ = _
    simp only [St.keep,keepT,t1,t2,t3,t4,t5,t6,t7]
   rintro S1 ⟨x,O2,n2,rfl,p1,p2,p3⟩
   have hle2 := p2.le
   have a0q : getA O2 n = some (.gh J) := by rw [p2.old n (by omega) (by simp)]; exact a0
   have a1q : getA O2 (n + 1) = some (.box 25 (eLay awL)) := by rw [p2.old (n + 1) (by omega) (by simp)]; exact a1
   have hpx := plainF (plain_eAr (.tk (takeM awL a)) x)
   have hid2 := oid n2
   have c0 := odl (n := n2) (d := n) (by omega)
   have c1 := odl (n := n2) (d := n + 1) (by omega)
   have kO := okO_l12one awL_ok 0 ws (by rw [aw_size,hlen]; decide) (by rw [hlen]; decide) (.tk (takeM awL a)) (takeOk awL_ok (a := a) (by show (a : Int) < 40; omega)) rfl (by rw [hX]; exact hXl) O2 n2 p1
   rw [hX,hXb.1,hXb.2,hlen] at kO
   generalize wordsA 1424 (setB awL (wordF ws) b) = ws2 at kO hW2
   have F4 := And.intro F3 (And.intro @hpx (And.intro @hid2 (And.intro @c0 (And.intro @c1 (And.intro @a0q @a1q)))))
   refine hn26 (some ([1,2,3,4,5,6,7],none)) _ ?_;refine eS fun _ hn27 _ _ => ?_;refine eS fun _ hn28 _ _ => ?_;refine eO fun _ hk29 => ?_;refine tC 3 F4 ?_;refine tC 1 F4 ?_;refine tZ F4 ?_;refine hk29 _ ?_;refine hn28 (some ([1,2,3,4,5,6,7,37],none)) _ ?_;refine eCf ?_;refine hn27 (some ([1,2,3,4,5,6,7],none)) _ ?_;refine eS fun _ hn30 _ _ => ?_;refine eO fun _ hk31 => ?_;refine tC 1 F4 ?_;refine tS 2 F4 ?_;refine tS 1 F4 ?_;refine Or.inr (evCallO_mk (kO) (sgE1 F4) (fun Jo3 ro3 Oo3 no3 hPo3 => ?_))
   obtain ⟨rfl,hle9,hfr9⟩ := hPo3
   have f0 : getA Oo3 n = some (.gh J) := by rw [hfr9 n (by omega) (by simp; omega)]; exact a0q
   have f1 : getA Oo3 (n + 1) = some (.box 25 (eLay awL)) := by rw [hfr9 (n + 1) (by omega) (by simp; omega)]; exact a1q
   have e0 := odl (n := no3) (d := n) (by omega)
   have e1 := odl (n := no3) (d := n + 1) (by omega)
   have F5 := And.intro F4 (And.intro @e0 (And.intro @e1 (And.intro @f0 @f1)))
   refine tS 3 F5 ?_;refine tS 3 F5 ?_;refine tL F5 ?_;refine hk31 _ ?_;refine hn30 (some ([1,3,4,5,7,8,9,10,11],none)) _ ?_;refine eS fun _ hn32 _ _ => ?_;refine eS fun _ hn33 _ _ => ?_;refine eO fun _ hk34 => ?_;refine tC 2 F5 ?_;refine tS 3 F5 ?_;refine tS 3 F5 ?_;refine tC 3 F5 ?_;refine tC 1 F5 ?_;refine tC 1 F5 ?_;refine tS 3 F5 ?_;refine tC 1 F5 ?_;refine tC 2 F5 ?_;refine tS 1 F5 ?_;refine Or.inl ⟨_,eqsh_bool _ _,?_⟩;refine tL F5 ?_;refine hk34 _ ?_;refine hn33 (some ([1,3,4,5,8,77],none)) _ ?_;refine eCf ?_;refine hn32 (some ([1,3,4,5,8],none)) _ ?_;refine eO fun _ hk35 => ?_;refine tL F5 ?_;refine hk35 _ ?_;refine hn25 _ ?_;refine hn24 (some ([1,2,3,4,5],none)) _ ?_;refine eO fun _ hk36 => ?_;refine tC 2 F5 ?_;refine tL F5 ?_;refine hk36 _ ?_;refine hn15 (6 - (i + 1)) (some ([1,2,3,4,5],none)) _ ?_ ?_
   all_goals try refine lp0 ?_
   ·omega
   ·refine ⟨_ + 1,_,_,_,by omega,by omega,hW2,by omega,?_,?_,rfl⟩
    ·simp only [getA,getA_delO]; (repeat rw [if_neg (by omega)]); exact f0
    ·simp only [getA,getA_delO]; (repeat rw [if_neg (by omega)]); exact f1
  ·skip
   have wi0 : (0 : Int) ≤ ((2 : Nat) : Int) := by omega
   have hA1 : awA[2]? = some [sI (-5)] := rfl
   have wm : max (-5 : Int) 0 = ((0 : Nat) : Int) := by decide
   have kT := ok_arTake awL_ok 0 (by decide)
   have kG := ok_arGive awL_ok 5 (by decide)
   obtain ⟨X,hX,hXl,hXc⟩ := solo_give (l := awL) 5 (wordF ws)
   have hXb : blockA X.s = (5,0,true) ∧ X.f = clrB awL (wordF ws) 5 := by
    rcases hXc with ⟨h1,h2,h3⟩ | ⟨h1,_⟩
    ·exact ⟨h2,h3⟩
    ·rw [hu] at h1; cases h1
   have F6 := And.intro F1 (And.intro @hid1 (And.intro @d0 (And.intro @d1 (And.intro @a0 (And.intro @a1 @wi0)))))
   refine eS fun _ hn37 _ _ => ?_;refine eS fun _ hn38 _ _ => ?_;refine eO fun _ hk39 => ?_;refine tS 3 F6 ?_;refine tZ F6 ?_;refine hk39 _ ?_;refine hn38 (some ([1,2,3,4,5,20],none)) _ ?_;refine eCt ?_;refine hn37 (some ([1,2,3,4,5],none)) _ ?_;refine eS fun _ hn40 _ _ => ?_;refine eB fun _ hn41 _ _ _ => ?_;refine eS fun _ hn42 _ _ => ?_;refine eCflP ([]) (fun done S => Closed awWt done ∧ ∃ x,RgC (awBl n ws 2) (fun x => awV0 2 (-5) ((0 : Nat) : Int) [sI (-5)] ++ awW0 (.tk (takeM awL 0)) x) [7,8,9,10,11] 6 O1 n1 (MkP (.tk (takeM awL 0)) O1 n1) done S x) (fun S => ∃ x O9 n9,S = ⟨[(1,.ptr (n + 1) 0 0),(2,.sl 3 0 (ws.map eWord)),(3,.sl 1 0 awA),(4,.sl 1 0 awB),(5,sI ((2 : Nat) : Int)),(6,eAr (.tk (takeM awL 0)) x),(7,sI 0)],O9,n9⟩ ∧ MkP (.tk (takeM awL 0)) O1 n1 x O9 n9) ?_ ?_ ?_ ?_
   ·skip
    refine ⟨closed_nil _,⟨0,0,0,.any⟩,RgC.init (fun t v h => ?_) rfl rfl⟩
    simp only [getA] at h
    simp only [St.casts,St.keep,keepT,getA,reduceIte,Nat.reduceEqDiff]
    repeat' split at h
    all_goals first | (rename_i e9; subst e9; exact h) | cases h
   ·skip
    intro done S i0 ⟨hc,x,hI⟩ hr
    have hi9 := rdyN_lt hr
    have hnr := rdyN_not hr
    have b1 := hI.base 1 _ rfl
    have b3 := hI.base 3 _ rfl
    have b5 := hI.base 5 _ rfl
    have mL := mk_memA hI (e := n + 1) (by omega) a1
    have hgot := fun t j v h h2 => hI.got t j v h h2
    have hpx := fun x => plainF (plain_eAr (.tk (takeM awL 0)) x)
    have hcase : i0 = 0 ∨ i0 = 1 ∨ i0 = 2 ∨ i0 = 3 ∨ i0 = 4 ∨ i0 = 5 ∨ i0 = 6 ∨ i0 = 7 ∨ i0 = 8 ∨ i0 = 9 ∨ i0 = 10 ∨ i0 = 11 := by simp at hi9; omega
    rcases hcase with rfl | rfl | rfl | rfl | rfl | rfl | rfl | rfl | rfl | rfl | rfl | rfl
    ·skip
     have F9 := And.intro b1 mL
     refine cfOpN rfl fun K9 hk9 => ?_;refine sh1 F9 ?_;refine sd ?_;refine hk9 _ ?_
     exact ⟨hc.cons hr,x,hI.put (i := 0) (t := 24) rfl rfl rfl (by decide) (fun h => by cases h)⟩
    ·skip
     have F9 := b3
     refine cfOpN rfl fun K9 hk9 => ?_;refine sh1 F9 ?_;refine hk9 _ ?_
     exact ⟨hc.cons hr,x,hI.put (i := 1) (t := 25) rfl rfl rfl (by decide) (fun h => by cases h)⟩
    ·skip
     have F9 := b5
     refine cfOpN rfl fun K9 hk9 => ?_;refine sh1 F9 ?_;refine hk9 _ ?_
     exact ⟨hc.cons hr,x,hI.put (i := 2) (t := 26) rfl rfl rfl (by decide) (fun h => by cases h)⟩
    ·skip
     have hw := rdyN_wait hr rfl
     have g1 := hgot 25 1 _ rfl (hw 1 rfl)
     have g2 := hgot 26 2 _ rfl (hw 2 rfl)
     have F9 := And.intro g1 (And.intro g2 (And.intro wi0 hA1))
     refine cfOpN rfl fun K9 hk9 => ?_;refine sh1 F9 ?_;refine sd ?_;refine hk9 _ ?_
     exact ⟨hc.cons hr,x,hI.put (i := 3) (t := 27) rfl rfl rfl (by decide) (fun h => by cases h)⟩
    ·skip
     have hw := rdyN_wait hr rfl
     have g1 := hgot 27 3 _ rfl (hw 3 rfl)
     have F9 := g1
     refine cfOpN rfl fun K9 hk9 => ?_;refine sh1 F9 ?_;refine hk9 _ ?_
     exact ⟨hc.cons hr,x,hI.put (i := 4) (t := 28) rfl rfl rfl (by decide) (fun h => by cases h)⟩
    ·skip
     have hw := rdyN_wait hr rfl
     have g1 := hgot 28 4 _ rfl (hw 4 rfl)
     have F9 := And.intro g1 wm
     refine cfOpN rfl fun K9 hk9 => ?_;refine sh1 F9 ?_;refine hk9 _ ?_
     exact ⟨hc.cons hr,x,hI.put (i := 5) (t := 29) rfl rfl rfl (by decide) (fun h => by cases h)⟩
    ·have hw := rdyN_wait hr rfl
     have g1 := hgot 24 0 _ rfl (hw 0 rfl)
     have g2 := hgot 29 5 _ rfl (hw 5 rfl)
     obtain ⟨T9,O9,n9⟩ := S
     obtain ⟨e1,e2⟩ := hI.pre hnr
     dsimp only at e1 e2
     subst e1 e2
     dsimp only at g1 g2
     refine cfOpN rfl fun K9 hk9 => ?_;refine Or.inr (evCallO_mk (kT _ _) (by simp only [St.opdL,St.opd,g1,g2,St.res,Option.map_some,Option.bind_some]) fun J9 r9 O8 n8 hP9 => ?_)
     obtain ⟨x9,rfl,q1,q2,q3,q4⟩ := hP9
     refine hk9 _ ?_
     exact ⟨hc.cons hr,x9,hI.call2 (t := 30) hnr rfl rfl rfl rfl (MkP.of q1 q2 q3 q4)⟩
    ·skip
     have hw := rdyN_wait hr rfl
     have g1 := hgot 30 6 _ rfl (hw 6 rfl)
     have F9 := g1
     refine cfOpN rfl fun K9 hk9 => ?_;refine sh1 F9 ?_;refine hk9 _ ?_
     exact ⟨hc.cons hr,x,hI.put (i := 7) (t := 23) rfl rfl rfl (by decide) (fun _ => hw 6 rfl)⟩
    ·skip
     have hw := rdyN_wait hr rfl
     have h6 := hc 7 _ (hw 7 rfl) rfl 6 rfl
     have g1 := hgot 23 7 _ rfl (hw 7 rfl)
     have F9 := And.intro g1 (hpx x)
     refine cfOpN rfl fun K9 hk9 => ?_;refine sh1 F9 ?_;refine hk9 _ ?_
     exact ⟨hc.cons hr,x,hI.put (i := 8) (t := 31) rfl rfl rfl (by decide) (fun _ => h6)⟩
    ·skip
     have hw := rdyN_wait hr rfl
     have h6 := hc 7 _ (hw 7 rfl) rfl 6 rfl
     have g1 := hgot 23 7 _ rfl (hw 7 rfl)
     have F9 := And.intro g1 (hpx x)
     refine cfOpN rfl fun K9 hk9 => ?_;refine sh1 F9 ?_;refine hk9 _ ?_
     exact ⟨hc.cons hr,x,hI.put (i := 9) (t := 32) rfl rfl rfl (by decide) (fun _ => h6)⟩
    ·skip
     have hw := rdyN_wait hr rfl
     have g1 := hgot 31 8 _ rfl (hw 8 rfl)
     have F9 := And.intro g1 (hpx x)
     refine cfOpN rfl fun K9 hk9 => ?_;refine sh1 F9 ?_;refine hk9 _ ?_
     exact ⟨hc.cons hr,x,hI.put (i := 10) (t := 6) rfl rfl rfl (by decide) (fun _ => hw 6 rfl)⟩
    ·skip
     have hw := rdyN_wait hr rfl
     have g1 := hgot 32 9 _ rfl (hw 9 rfl)
     have F9 := g1
     refine cfOpN rfl fun K9 hk9 => ?_;refine sh1 F9 ?_;refine hk9 _ ?_
     exact ⟨hc.cons hr,x,hI.put (i := 11) (t := 7) rfl rfl rfl (by decide) (fun _ => hw 6 rfl)⟩
   ·skip
    rintro done S ⟨hc,x,hI⟩ hall
    have t1 := hI.base 1 _ rfl
    have t2 := hI.base 2 _ rfl
    have t3 := hI.base 3 _ rfl
    have t4 := hI.base 4 _ rfl
    have t5 := hI.base 5 _ rfl
    have t6 := hI.got 6 10 _ rfl (hall 10 (by decide))
    have t7 := hI.got 7 11 _ rfl (hall 11 (by decide))
    obtain ⟨u1,u2,u3⟩ := hI.post (hall 6 (by decide))
    have hs9 : ∀ e,getA (srtO S.O) e = getA S.O e := fun e => getA_srtO _ _
    refine ⟨some ([1,2,3,4,5,6,7],none),x,srtO S.O,S.n,?_,⟨ArO.to u1 (Nat.le_refl _) (hs9 _) (hs9 _),⟨u2.le,fun e he hx => (hs9 e).trans (u2.old e he hx)⟩,u3⟩⟩
    show St.mk (keepT S.T [1,2,3,4,5,6,7]) _ _ = _
    simp only [St.keep,keepT,t1,t2,t3,t4,t5,t6,t7]
   rintro S1 ⟨x,O2,n2,rfl,p1,p2,p3⟩
   have hle2 := p2.le
   have a0q : getA O2 n = some (.gh J) := by rw [p2.old n (by omega) (by simp)]; exact a0
   have a1q : getA O2 (n + 1) = some (.box 25 (eLay awL)) := by rw [p2.old (n + 1) (by omega) (by simp)]; exact a1
   have hpx := plainF (plain_eAr (.tk (takeM awL 0)) x)
   have hid2 := oid n2
   have c0 := odl (n := n2) (d := n) (by omega)
   have c1 := odl (n := n2) (d := n + 1) (by omega)
   have wm : IntKind.i64.wrap (-(-5)) = ((5 : Nat) : Int) := by decide
   have F7 := And.intro F6 (And.intro @hpx (And.intro @hid2 (And.intro @c0 (And.intro @c1 (And.intro @a0q @a1q)))))
   refine hn42 (some ([1,2,3,4,5,6,7],none)) _ ?_;refine eS fun _ hn43 _ _ => ?_;refine eS fun _ hn44 _ _ => ?_;refine eO fun _ hk45 => ?_;refine tC 3 F7 ?_;refine tC 1 F7 ?_;refine tZ F7 ?_;refine hk45 _ ?_;refine hn44 (some ([1,2,3,4,5,6,7,37],none)) _ ?_;refine eCt ?_;refine eCflP ([]) (fun done S => Closed awWt done ∧ ∃ x,RgC (awBl n ws 2) (fun x => awV1 2 (-5) ((5 : Nat) : Int) [sI (-5)] ++ awW1 (.gv (giveA awL 5)) x) [7,8,9,10,11] 6 O2 n2 (MkP (.gv (giveA awL 5)) O2 n2) done S x) (fun S => ∃ x O9 n9,S = ⟨[(1,.ptr (n + 1) 0 0),(2,.sl 3 0 (ws.map eWord)),(3,.sl 1 0 awA),(4,.sl 1 0 awB),(5,sI ((2 : Nat) : Int)),(6,eAr (.gv (giveA awL 5)) x),(7,sI 0)],O9,n9⟩ ∧ MkP (.gv (giveA awL 5)) O2 n2 x O9 n9) ?_ ?_ ?_ ?_
   ·skip
    refine ⟨closed_nil _,⟨0,0,0,.any⟩,RgC.init (fun t v h => ?_) rfl rfl⟩
    simp only [getA] at h
    simp only [St.casts,St.keep,keepT,getA,reduceIte,Nat.reduceEqDiff]
    repeat' split at h
    all_goals first | (rename_i e9; subst e9; exact h) | cases h
   ·skip
    intro done S i0 ⟨hc,x,hI⟩ hr
    have hi9 := rdyN_lt hr
    have hnr := rdyN_not hr
    have b1 := hI.base 1 _ rfl
    have b3 := hI.base 3 _ rfl
    have b5 := hI.base 5 _ rfl
    have mL := mk_memA hI (e := n + 1) (by omega) a1q
    have hgot := fun t j v h h2 => hI.got t j v h h2
    have hpx := fun x => plainF (plain_eAr (.gv (giveA awL 5)) x)
    have hcase : i0 = 0 ∨ i0 = 1 ∨ i0 = 2 ∨ i0 = 3 ∨ i0 = 4 ∨ i0 = 5 ∨ i0 = 6 ∨ i0 = 7 ∨ i0 = 8 ∨ i0 = 9 ∨ i0 = 10 ∨ i0 = 11 := by simp at hi9; omega
    rcases hcase with rfl | rfl | rfl | rfl | rfl | rfl | rfl | rfl | rfl | rfl | rfl | rfl
    ·skip
     have F9 := And.intro b1 mL
     refine cfOpN rfl fun K9 hk9 => ?_;refine sh1 F9 ?_;refine sd ?_;refine hk9 _ ?_
     exact ⟨hc.cons hr,x,hI.put (i := 0) (t := 39) rfl rfl rfl (by decide) (fun h => by cases h)⟩
    ·skip
     have F9 := b3
     refine cfOpN rfl fun K9 hk9 => ?_;refine sh1 F9 ?_;refine hk9 _ ?_
     exact ⟨hc.cons hr,x,hI.put (i := 1) (t := 40) rfl rfl rfl (by decide) (fun h => by cases h)⟩
    ·skip
     have F9 := b5
     refine cfOpN rfl fun K9 hk9 => ?_;refine sh1 F9 ?_;refine hk9 _ ?_
     exact ⟨hc.cons hr,x,hI.put (i := 2) (t := 41) rfl rfl rfl (by decide) (fun h => by cases h)⟩
    ·skip
     have hw := rdyN_wait hr rfl
     have g1 := hgot 40 1 _ rfl (hw 1 rfl)
     have g2 := hgot 41 2 _ rfl (hw 2 rfl)
     have F9 := And.intro g1 (And.intro g2 (And.intro wi0 hA1))
     refine cfOpN rfl fun K9 hk9 => ?_;refine sh1 F9 ?_;refine sd ?_;refine hk9 _ ?_
     exact ⟨hc.cons hr,x,hI.put (i := 3) (t := 42) rfl rfl rfl (by decide) (fun h => by cases h)⟩
    ·skip
     have hw := rdyN_wait hr rfl
     have g1 := hgot 42 3 _ rfl (hw 3 rfl)
     have F9 := g1
     refine cfOpN rfl fun K9 hk9 => ?_;refine sh1 F9 ?_;refine hk9 _ ?_
     exact ⟨hc.cons hr,x,hI.put (i := 4) (t := 43) rfl rfl rfl (by decide) (fun h => by cases h)⟩
    ·skip
     have hw := rdyN_wait hr rfl
     have g1 := hgot 43 4 _ rfl (hw 4 rfl)
     have F9 := And.intro g1 wm
     refine cfOpN rfl fun K9 hk9 => ?_;refine sh1 F9 ?_;refine Or.inl ⟨_,gen_neg,?_⟩;refine sh1 F9 ?_;refine hk9 _ ?_
     exact ⟨hc.cons hr,x,hI.put (i := 5) (t := 44) rfl rfl rfl (by decide) (fun h => by cases h)⟩
    ·have hw := rdyN_wait hr rfl
     have g1 := hgot 39 0 _ rfl (hw 0 rfl)
     have g2 := hgot 44 5 _ rfl (hw 5 rfl)
     obtain ⟨T9,O9,n9⟩ := S
     obtain ⟨e1,e2⟩ := hI.pre hnr
     dsimp only at e1 e2
     subst e1 e2
     dsimp only at g1 g2
     refine cfOpN rfl fun K9 hk9 => ?_;refine Or.inr (evCallO_mk (kG _ _) (by simp only [St.opdL,St.opd,g1,g2,St.res,Option.map_some,Option.bind_some]) fun J9 r9 O8 n8 hP9 => ?_)
     obtain ⟨x9,rfl,q1,q2,q3,q4⟩ := hP9
     refine hk9 _ ?_
     exact ⟨hc.cons hr,x9,hI.call2 (t := 45) hnr rfl rfl rfl rfl (MkP.of q1 q2 q3 q4)⟩
    ·skip
     have hw := rdyN_wait hr rfl
     have g1 := hgot 45 6 _ rfl (hw 6 rfl)
     have F9 := g1
     refine cfOpN rfl fun K9 hk9 => ?_;refine sh1 F9 ?_;refine hk9 _ ?_
     exact ⟨hc.cons hr,x,hI.put (i := 7) (t := 38) rfl rfl rfl (by decide) (fun _ => hw 6 rfl)⟩
    ·skip
     have hw := rdyN_wait hr rfl
     have h6 := hc 7 _ (hw 7 rfl) rfl 6 rfl
     have g1 := hgot 38 7 _ rfl (hw 7 rfl)
     have F9 := And.intro g1 (hpx x)
     refine cfOpN rfl fun K9 hk9 => ?_;refine sh1 F9 ?_;refine hk9 _ ?_
     exact ⟨hc.cons hr,x,hI.put (i := 8) (t := 46) rfl rfl rfl (by decide) (fun _ => h6)⟩
    ·skip
     have hw := rdyN_wait hr rfl
     have h6 := hc 7 _ (hw 7 rfl) rfl 6 rfl
     have g1 := hgot 38 7 _ rfl (hw 7 rfl)
     have F9 := And.intro g1 (hpx x)
     refine cfOpN rfl fun K9 hk9 => ?_;refine sh1 F9 ?_;refine hk9 _ ?_
     exact ⟨hc.cons hr,x,hI.put (i := 9) (t := 47) rfl rfl rfl (by decide) (fun _ => h6)⟩
    ·skip
     have hw := rdyN_wait hr rfl
     have g1 := hgot 46 8 _ rfl (hw 8 rfl)
     have F9 := And.intro g1 (hpx x)
     refine cfOpN rfl fun K9 hk9 => ?_;refine sh1 F9 ?_;refine hk9 _ ?_
     exact ⟨hc.cons hr,x,hI.put (i := 10) (t := 6) rfl rfl rfl (by decide) (fun _ => hw 6 rfl)⟩
    ·skip
     have hw := rdyN_wait hr rfl
     have g1 := hgot 47 9 _ rfl (hw 9 rfl)
     have F9 := g1
     refine cfOpN rfl fun K9 hk9 => ?_;refine sh1 F9 ?_;refine hk9 _ ?_
     exact ⟨hc.cons hr,x,hI.put (i := 11) (t := 7) rfl rfl rfl (by decide) (fun _ => hw 6 rfl)⟩
   ·skip
    rintro done S ⟨hc,x,hI⟩ hall
    have t1 := hI.base 1 _ rfl
    have t2 := hI.base 2 _ rfl
    have t3 := hI.base 3 _ rfl
    have t4 := hI.base 4 _ rfl
    have t5 := hI.base 5 _ rfl
    have t6 := hI.got 6 10 _ rfl (hall 10 (by decide))
    have t7 := hI.got 7 11 _ rfl (hall 11 (by decide))
    obtain ⟨u1,u2,u3⟩ := hI.post (hall 6 (by decide))
    have hs9 : ∀ e,getA (srtO S.O) e = getA S.O e := fun e => getA_srtO _ _
    refine ⟨some ([1,2,3,4,5,6,7],none),x,srtO S.O,S.n,?_,⟨ArO.to u1 (Nat.le_refl _) (hs9 _) (hs9 _),⟨u2.le,fun e he hx => (hs9 e).trans (u2.old e he hx)⟩,u3⟩⟩
    show St.mk (keepT S.T [1,2,3,4,5,6,7]) _ _ = _
    simp only [St.keep,keepT,t1,t2,t3,t4,t5,t6,t7]
   rintro S1 ⟨x2,O3,n3,rfl,r1,r2,r3⟩
   have hle3 := r2.le
   have a0r : getA O3 n = some (.gh J) := by rw [r2.old n (by omega) (by simp)]; exact a0q
   have a1r : getA O3 (n + 1) = some (.box 25 (eLay awL)) := by rw [r2.old (n + 1) (by omega) (by simp)]; exact a1q
   have hpx2 := plainF (plain_eAr (.gv (giveA awL 5)) x2)
   have hid3 := oid n3
   have c0r := odl (n := n3) (d := n) (by omega)
   have c1r := odl (n := n3) (d := n + 1) (by omega)
   have kO := okO_l12one awL_ok 0 ws (by rw [aw_size,hlen]; decide) (by rw [hlen]; decide) (.gv (giveA awL 5)) (⟨awL_ok,by decide⟩ : GvOk (giveA awL 5)) rfl (by rw [hX]; exact hXl) O3 n3 r1
   rw [hX,hXb.1,hXb.2,hlen] at kO
   generalize wordsA 1424 (clrB awL (wordF ws) 5) = ws2 at kO hW2
   have F8 := And.intro F7 (And.intro @hpx2 (And.intro @hid3 (And.intro @c0r (And.intro @c1r (And.intro @a0r @a1r)))))
   refine hn43 (some ([1,2,3,4,5,6,7],none)) _ ?_;refine eS fun _ hn46 _ _ => ?_;refine eO fun _ hk47 => ?_;refine tC 1 F8 ?_;refine tS 2 F8 ?_;refine tS 1 F8 ?_;refine Or.inr (evCallO_mk (kO) (sgE1 F8) (fun Jo3 ro3 Oo3 no3 hPo3 => ?_))
   obtain ⟨rfl,hle9,hfr9⟩ := hPo3
   have f0 : getA Oo3 n = some (.gh J) := by rw [hfr9 n (by omega) (by simp; omega)]; exact a0r
   have f1 : getA Oo3 (n + 1) = some (.box 25 (eLay awL)) := by rw [hfr9 (n + 1) (by omega) (by simp; omega)]; exact a1r
   have e0 := odl (n := no3) (d := n) (by omega)
   have e1 := odl (n := no3) (d := n + 1) (by omega)
   have F9 := And.intro F8 (And.intro @e0 (And.intro @e1 (And.intro @f0 @f1)))
   refine tS 3 F9 ?_;refine tS 3 F9 ?_;refine tL F9 ?_;refine hk47 _ ?_;refine hn46 (some ([1,3,4,5,7,8,9,10,11],none)) _ ?_;refine eS fun _ hn48 _ _ => ?_;refine eS fun _ hn49 _ _ => ?_;refine eO fun _ hk50 => ?_;refine tC 2 F9 ?_;refine tS 3 F9 ?_;refine tS 3 F9 ?_;refine tC 3 F9 ?_;refine tC 1 F9 ?_;refine tC 1 F9 ?_;refine tS 3 F9 ?_;refine tC 1 F9 ?_;refine tC 2 F9 ?_;refine tS 1 F9 ?_;refine Or.inl ⟨_,eqsh_bool _ _,?_⟩;refine tL F9 ?_;refine hk50 _ ?_;refine hn49 (some ([1,3,4,5,8,77],none)) _ ?_;refine eCf ?_;refine hn48 (some ([1,3,4,5,8],none)) _ ?_;refine eO fun _ hk51 => ?_;refine tL F9 ?_;refine hk51 _ ?_;refine hn41 _ ?_;refine hn40 (some ([1,2,3,4,5],none)) _ ?_;refine eO fun _ hk52 => ?_;refine tC 2 F9 ?_;refine tL F9 ?_;refine hk52 _ ?_;refine hn15 (6 - 3) (some ([1,2,3,4,5],none)) _ ?_ ?_
   all_goals try refine lp0 ?_
   ·omega
   ·refine ⟨_ + 1,_,_,_,by omega,by omega,hW2,by omega,?_,?_,rfl⟩
    ·simp only [getA,getA_delO]; (repeat rw [if_neg (by omega)]); exact f0
    ·simp only [getA,getA_delO]; (repeat rw [if_neg (by omega)]); exact f1
  ·skip
   have wi0 : (0 : Int) ≤ ((3 : Nat) : Int) := by omega
   have hA1 : awA[3]? = some [sI (-5)] := rfl
   have wm : max (-5 : Int) 0 = ((0 : Nat) : Int) := by decide
   have kT := ok_arTake awL_ok 0 (by decide)
   have kG := ok_arGive awL_ok 5 (by decide)
   obtain ⟨X,hX,hXl,hXc⟩ := solo_give (l := awL) 5 (wordF ws)
   have hXb : blockA X.s = (5,13,true) ∧ X.f = wordF ws := by
    rcases hXc with ⟨h1,_⟩ | ⟨h1,h2,h3⟩
    ·rw [hu] at h1; cases h1
    ·exact ⟨h2,h3⟩
   have F10 := And.intro F1 (And.intro @hid1 (And.intro @d0 (And.intro @d1 (And.intro @a0 (And.intro @a1 @wi0)))))
   refine eS fun _ hn53 _ _ => ?_;refine eS fun _ hn54 _ _ => ?_;refine eO fun _ hk55 => ?_;refine tS 3 F10 ?_;refine tZ F10 ?_;refine hk55 _ ?_;refine hn54 (some ([1,2,3,4,5,20],none)) _ ?_;refine eCt ?_;refine hn53 (some ([1,2,3,4,5],none)) _ ?_;refine eS fun _ hn56 _ _ => ?_;refine eB fun _ hn57 _ _ _ => ?_;refine eS fun _ hn58 _ _ => ?_;refine eCflP ([]) (fun done S => Closed awWt done ∧ ∃ x,RgC (awBl n ws 3) (fun x => awV0 3 (-5) ((0 : Nat) : Int) [sI (-5)] ++ awW0 (.tk (takeM awL 0)) x) [7,8,9,10,11] 6 O1 n1 (MkP (.tk (takeM awL 0)) O1 n1) done S x) (fun S => ∃ x O9 n9,S = ⟨[(1,.ptr (n + 1) 0 0),(2,.sl 3 0 (ws.map eWord)),(3,.sl 1 0 awA),(4,.sl 1 0 awB),(5,sI ((3 : Nat) : Int)),(6,eAr (.tk (takeM awL 0)) x),(7,sI 0)],O9,n9⟩ ∧ MkP (.tk (takeM awL 0)) O1 n1 x O9 n9) ?_ ?_ ?_ ?_
   ·skip
    refine ⟨closed_nil _,⟨0,0,0,.any⟩,RgC.init (fun t v h => ?_) rfl rfl⟩
    simp only [getA] at h
    simp only [St.casts,St.keep,keepT,getA,reduceIte,Nat.reduceEqDiff]
    repeat' split at h
    all_goals first | (rename_i e9; subst e9; exact h) | cases h
   ·skip
    intro done S i0 ⟨hc,x,hI⟩ hr
    have hi9 := rdyN_lt hr
    have hnr := rdyN_not hr
    have b1 := hI.base 1 _ rfl
    have b3 := hI.base 3 _ rfl
    have b5 := hI.base 5 _ rfl
    have mL := mk_memA hI (e := n + 1) (by omega) a1
    have hgot := fun t j v h h2 => hI.got t j v h h2
    have hpx := fun x => plainF (plain_eAr (.tk (takeM awL 0)) x)
    have hcase : i0 = 0 ∨ i0 = 1 ∨ i0 = 2 ∨ i0 = 3 ∨ i0 = 4 ∨ i0 = 5 ∨ i0 = 6 ∨ i0 = 7 ∨ i0 = 8 ∨ i0 = 9 ∨ i0 = 10 ∨ i0 = 11 := by simp at hi9; omega
    rcases hcase with rfl | rfl | rfl | rfl | rfl | rfl | rfl | rfl | rfl | rfl | rfl | rfl
    ·skip
     have F9 := And.intro b1 mL
     refine cfOpN rfl fun K9 hk9 => ?_;refine sh1 F9 ?_;refine sd ?_;refine hk9 _ ?_
     exact ⟨hc.cons hr,x,hI.put (i := 0) (t := 24) rfl rfl rfl (by decide) (fun h => by cases h)⟩
    ·skip
     have F9 := b3
     refine cfOpN rfl fun K9 hk9 => ?_;refine sh1 F9 ?_;refine hk9 _ ?_
     exact ⟨hc.cons hr,x,hI.put (i := 1) (t := 25) rfl rfl rfl (by decide) (fun h => by cases h)⟩
    ·skip
     have F9 := b5
     refine cfOpN rfl fun K9 hk9 => ?_;refine sh1 F9 ?_;refine hk9 _ ?_
     exact ⟨hc.cons hr,x,hI.put (i := 2) (t := 26) rfl rfl rfl (by decide) (fun h => by cases h)⟩
    ·skip
     have hw := rdyN_wait hr rfl
     have g1 := hgot 25 1 _ rfl (hw 1 rfl)
     have g2 := hgot 26 2 _ rfl (hw 2 rfl)
     have F9 := And.intro g1 (And.intro g2 (And.intro wi0 hA1))
     refine cfOpN rfl fun K9 hk9 => ?_;refine sh1 F9 ?_;refine sd ?_;refine hk9 _ ?_
     exact ⟨hc.cons hr,x,hI.put (i := 3) (t := 27) rfl rfl rfl (by decide) (fun h => by cases h)⟩
    ·skip
     have hw := rdyN_wait hr rfl
     have g1 := hgot 27 3 _ rfl (hw 3 rfl)
     have F9 := g1
     refine cfOpN rfl fun K9 hk9 => ?_;refine sh1 F9 ?_;refine hk9 _ ?_
     exact ⟨hc.cons hr,x,hI.put (i := 4) (t := 28) rfl rfl rfl (by decide) (fun h => by cases h)⟩
    ·skip
     have hw := rdyN_wait hr rfl
     have g1 := hgot 28 4 _ rfl (hw 4 rfl)
     have F9 := And.intro g1 wm
     refine cfOpN rfl fun K9 hk9 => ?_;refine sh1 F9 ?_;refine hk9 _ ?_
     exact ⟨hc.cons hr,x,hI.put (i := 5) (t := 29) rfl rfl rfl (by decide) (fun h => by cases h)⟩
    ·have hw := rdyN_wait hr rfl
     have g1 := hgot 24 0 _ rfl (hw 0 rfl)
     have g2 := hgot 29 5 _ rfl (hw 5 rfl)
     obtain ⟨T9,O9,n9⟩ := S
     obtain ⟨e1,e2⟩ := hI.pre hnr
     dsimp only at e1 e2
     subst e1 e2
     dsimp only at g1 g2
     refine cfOpN rfl fun K9 hk9 => ?_;refine Or.inr (evCallO_mk (kT _ _) (by simp only [St.opdL,St.opd,g1,g2,St.res,Option.map_some,Option.bind_some]) fun J9 r9 O8 n8 hP9 => ?_)
     obtain ⟨x9,rfl,q1,q2,q3,q4⟩ := hP9
     refine hk9 _ ?_
     exact ⟨hc.cons hr,x9,hI.call2 (t := 30) hnr rfl rfl rfl rfl (MkP.of q1 q2 q3 q4)⟩
    ·skip
     have hw := rdyN_wait hr rfl
     have g1 := hgot 30 6 _ rfl (hw 6 rfl)
     have F9 := g1
     refine cfOpN rfl fun K9 hk9 => ?_;refine sh1 F9 ?_;refine hk9 _ ?_
     exact ⟨hc.cons hr,x,hI.put (i := 7) (t := 23) rfl rfl rfl (by decide) (fun _ => hw 6 rfl)⟩
    ·skip
     have hw := rdyN_wait hr rfl
     have h6 := hc 7 _ (hw 7 rfl) rfl 6 rfl
     have g1 := hgot 23 7 _ rfl (hw 7 rfl)
     have F9 := And.intro g1 (hpx x)
     refine cfOpN rfl fun K9 hk9 => ?_;refine sh1 F9 ?_;refine hk9 _ ?_
     exact ⟨hc.cons hr,x,hI.put (i := 8) (t := 31) rfl rfl rfl (by decide) (fun _ => h6)⟩
    ·skip
     have hw := rdyN_wait hr rfl
     have h6 := hc 7 _ (hw 7 rfl) rfl 6 rfl
     have g1 := hgot 23 7 _ rfl (hw 7 rfl)
     have F9 := And.intro g1 (hpx x)
     refine cfOpN rfl fun K9 hk9 => ?_;refine sh1 F9 ?_;refine hk9 _ ?_
     exact ⟨hc.cons hr,x,hI.put (i := 9) (t := 32) rfl rfl rfl (by decide) (fun _ => h6)⟩
    ·skip
     have hw := rdyN_wait hr rfl
     have g1 := hgot 31 8 _ rfl (hw 8 rfl)
     have F9 := And.intro g1 (hpx x)
     refine cfOpN rfl fun K9 hk9 => ?_;refine sh1 F9 ?_;refine hk9 _ ?_
     exact ⟨hc.cons hr,x,hI.put (i := 10) (t := 6) rfl rfl rfl (by decide) (fun _ => hw 6 rfl)⟩
    ·skip
     have hw := rdyN_wait hr rfl
     have g1 := hgot 32 9 _ rfl (hw 9 rfl)
     have F9 := g1
     refine cfOpN rfl fun K9 hk9 => ?_;refine sh1 F9 ?_;refine hk9 _ ?_
     exact ⟨hc.cons hr,x,hI.put (i := 11) (t := 7) rfl rfl rfl (by decide) (fun _ => hw 6 rfl)⟩
   ·skip
    rintro done S ⟨hc,x,hI⟩ hall
    have t1 := hI.base 1 _ rfl
    have t2 := hI.base 2 _ rfl
    have t3 := hI.base 3 _ rfl
    have t4 := hI.base 4 _ rfl
    have t5 := hI.base 5 _ rfl
    have t6 := hI.got 6 10 _ rfl (hall 10 (by decide))
    have t7 := hI.got 7 11 _ rfl (hall 11 (by decide))
    obtain ⟨u1,u2,u3⟩ := hI.post (hall 6 (by decide))
    have hs9 : ∀ e,getA (srtO S.O) e = getA S.O e := fun e => getA_srtO _ _
    refine ⟨some ([1,2,3,4,5,6,7],none),x,srtO S.O,S.n,?_,⟨ArO.to u1 (Nat.le_refl _) (hs9 _) (hs9 _),⟨u2.le,fun e he hx => (hs9 e).trans (u2.old e he hx)⟩,u3⟩⟩
    show St.mk (keepT S.T [1,2,3,4,5,6,7]) _ _ = _
    simp only [St.keep,keepT,t1,t2,t3,t4,t5,t6,t7]
   rintro S1 ⟨x,O2,n2,rfl,p1,p2,p3⟩
   have hle2 := p2.le
   have a0q : getA O2 n = some (.gh J) := by rw [p2.old n (by omega) (by simp)]; exact a0
   have a1q : getA O2 (n + 1) = some (.box 25 (eLay awL)) := by rw [p2.old (n + 1) (by omega) (by simp)]; exact a1
   have hpx := plainF (plain_eAr (.tk (takeM awL 0)) x)
   have hid2 := oid n2
   have c0 := odl (n := n2) (d := n) (by omega)
   have c1 := odl (n := n2) (d := n + 1) (by omega)
   have wm : IntKind.i64.wrap (-(-5)) = ((5 : Nat) : Int) := by decide
   have F11 := And.intro F10 (And.intro @hpx (And.intro @hid2 (And.intro @c0 (And.intro @c1 (And.intro @a0q @a1q)))))
   refine hn58 (some ([1,2,3,4,5,6,7],none)) _ ?_;refine eS fun _ hn59 _ _ => ?_;refine eS fun _ hn60 _ _ => ?_;refine eO fun _ hk61 => ?_;refine tC 3 F11 ?_;refine tC 1 F11 ?_;refine tZ F11 ?_;refine hk61 _ ?_;refine hn60 (some ([1,2,3,4,5,6,7,37],none)) _ ?_;refine eCt ?_;refine eCflP ([]) (fun done S => Closed awWt done ∧ ∃ x,RgC (awBl n ws 3) (fun x => awV1 3 (-5) ((5 : Nat) : Int) [sI (-5)] ++ awW1 (.gv (giveA awL 5)) x) [7,8,9,10,11] 6 O2 n2 (MkP (.gv (giveA awL 5)) O2 n2) done S x) (fun S => ∃ x O9 n9,S = ⟨[(1,.ptr (n + 1) 0 0),(2,.sl 3 0 (ws.map eWord)),(3,.sl 1 0 awA),(4,.sl 1 0 awB),(5,sI ((3 : Nat) : Int)),(6,eAr (.gv (giveA awL 5)) x),(7,sI 0)],O9,n9⟩ ∧ MkP (.gv (giveA awL 5)) O2 n2 x O9 n9) ?_ ?_ ?_ ?_
   ·skip
    refine ⟨closed_nil _,⟨0,0,0,.any⟩,RgC.init (fun t v h => ?_) rfl rfl⟩
    simp only [getA] at h
    simp only [St.casts,St.keep,keepT,getA,reduceIte,Nat.reduceEqDiff]
    repeat' split at h
    all_goals first | (rename_i e9; subst e9; exact h) | cases h
   ·skip
    intro done S i0 ⟨hc,x,hI⟩ hr
    have hi9 := rdyN_lt hr
    have hnr := rdyN_not hr
    have b1 := hI.base 1 _ rfl
    have b3 := hI.base 3 _ rfl
    have b5 := hI.base 5 _ rfl
    have mL := mk_memA hI (e := n + 1) (by omega) a1q
    have hgot := fun t j v h h2 => hI.got t j v h h2
    have hpx := fun x => plainF (plain_eAr (.gv (giveA awL 5)) x)
    have hcase : i0 = 0 ∨ i0 = 1 ∨ i0 = 2 ∨ i0 = 3 ∨ i0 = 4 ∨ i0 = 5 ∨ i0 = 6 ∨ i0 = 7 ∨ i0 = 8 ∨ i0 = 9 ∨ i0 = 10 ∨ i0 = 11 := by simp at hi9; omega
    rcases hcase with rfl | rfl | rfl | rfl | rfl | rfl | rfl | rfl | rfl | rfl | rfl | rfl
    ·skip
     have F9 := And.intro b1 mL
     refine cfOpN rfl fun K9 hk9 => ?_;refine sh1 F9 ?_;refine sd ?_;refine hk9 _ ?_
     exact ⟨hc.cons hr,x,hI.put (i := 0) (t := 39) rfl rfl rfl (by decide) (fun h => by cases h)⟩
    ·skip
     have F9 := b3
     refine cfOpN rfl fun K9 hk9 => ?_;refine sh1 F9 ?_;refine hk9 _ ?_
     exact ⟨hc.cons hr,x,hI.put (i := 1) (t := 40) rfl rfl rfl (by decide) (fun h => by cases h)⟩
    ·skip
     have F9 := b5
     refine cfOpN rfl fun K9 hk9 => ?_;refine sh1 F9 ?_;refine hk9 _ ?_
     exact ⟨hc.cons hr,x,hI.put (i := 2) (t := 41) rfl rfl rfl (by decide) (fun h => by cases h)⟩
    ·skip
     have hw := rdyN_wait hr rfl
     have g1 := hgot 40 1 _ rfl (hw 1 rfl)
     have g2 := hgot 41 2 _ rfl (hw 2 rfl)
     have F9 := And.intro g1 (And.intro g2 (And.intro wi0 hA1))
     refine cfOpN rfl fun K9 hk9 => ?_;refine sh1 F9 ?_;refine sd ?_;refine hk9 _ ?_
     exact ⟨hc.cons hr,x,hI.put (i := 3) (t := 42) rfl rfl rfl (by decide) (fun h => by cases h)⟩
    ·skip
     have hw := rdyN_wait hr rfl
     have g1 := hgot 42 3 _ rfl (hw 3 rfl)
     have F9 := g1
     refine cfOpN rfl fun K9 hk9 => ?_;refine sh1 F9 ?_;refine hk9 _ ?_
     exact ⟨hc.cons hr,x,hI.put (i := 4) (t := 43) rfl rfl rfl (by decide) (fun h => by cases h)⟩
    ·skip
     have hw := rdyN_wait hr rfl
     have g1 := hgot 43 4 _ rfl (hw 4 rfl)
     have F9 := And.intro g1 wm
     refine cfOpN rfl fun K9 hk9 => ?_;refine sh1 F9 ?_;refine Or.inl ⟨_,gen_neg,?_⟩;refine sh1 F9 ?_;refine hk9 _ ?_
     exact ⟨hc.cons hr,x,hI.put (i := 5) (t := 44) rfl rfl rfl (by decide) (fun h => by cases h)⟩
    ·have hw := rdyN_wait hr rfl
     have g1 := hgot 39 0 _ rfl (hw 0 rfl)
     have g2 := hgot 44 5 _ rfl (hw 5 rfl)
     obtain ⟨T9,O9,n9⟩ := S
     obtain ⟨e1,e2⟩ := hI.pre hnr
     dsimp only at e1 e2
     subst e1 e2
     dsimp only at g1 g2
     refine cfOpN rfl fun K9 hk9 => ?_;refine Or.inr (evCallO_mk (kG _ _) (by simp only [St.opdL,St.opd,g1,g2,St.res,Option.map_some,Option.bind_some]) fun J9 r9 O8 n8 hP9 => ?_)
     obtain ⟨x9,rfl,q1,q2,q3,q4⟩ := hP9
     refine hk9 _ ?_
     exact ⟨hc.cons hr,x9,hI.call2 (t := 45) hnr rfl rfl rfl rfl (MkP.of q1 q2 q3 q4)⟩
    ·skip
     have hw := rdyN_wait hr rfl
     have g1 := hgot 45 6 _ rfl (hw 6 rfl)
     have F9 := g1
     refine cfOpN rfl fun K9 hk9 => ?_;refine sh1 F9 ?_;refine hk9 _ ?_
     exact ⟨hc.cons hr,x,hI.put (i := 7) (t := 38) rfl rfl rfl (by decide) (fun _ => hw 6 rfl)⟩
    ·skip
     have hw := rdyN_wait hr rfl
     have h6 := hc 7 _ (hw 7 rfl) rfl 6 rfl
     have g1 := hgot 38 7 _ rfl (hw 7 rfl)
     have F9 := And.intro g1 (hpx x)
     refine cfOpN rfl fun K9 hk9 => ?_;refine sh1 F9 ?_;refine hk9 _ ?_
     exact ⟨hc.cons hr,x,hI.put (i := 8) (t := 46) rfl rfl rfl (by decide) (fun _ => h6)⟩
    ·skip
     have hw := rdyN_wait hr rfl
     have h6 := hc 7 _ (hw 7 rfl) rfl 6 rfl
     have g1 := hgot 38 7 _ rfl (hw 7 rfl)
     have F9 := And.intro g1 (hpx x)
     refine cfOpN rfl fun K9 hk9 => ?_;refine sh1 F9 ?_;refine hk9 _ ?_
     exact ⟨hc.cons hr,x,hI.put (i := 9) (t := 47) rfl rfl rfl (by decide) (fun _ => h6)⟩
    ·skip
     have hw := rdyN_wait hr rfl
     have g1 := hgot 46 8 _ rfl (hw 8 rfl)
     have F9 := And.intro g1 (hpx x)
     refine cfOpN rfl fun K9 hk9 => ?_;refine sh1 F9 ?_;refine hk9 _ ?_
     exact ⟨hc.cons hr,x,hI.put (i := 10) (t := 6) rfl rfl rfl (by decide) (fun _ => hw 6 rfl)⟩
    ·skip
     have hw := rdyN_wait hr rfl
     have g1 := hgot 47 9 _ rfl (hw 9 rfl)
     have F9 := g1
     refine cfOpN rfl fun K9 hk9 => ?_;refine sh1 F9 ?_;refine hk9 _ ?_
     exact ⟨hc.cons hr,x,hI.put (i := 11) (t := 7) rfl rfl rfl (by decide) (fun _ => hw 6 rfl)⟩
   ·skip
    rintro done S ⟨hc,x,hI⟩ hall
    have t1 := hI.base 1 _ rfl
    have t2 := hI.base 2 _ rfl
    have t3 := hI.base 3 _ rfl
    have t4 := hI.base 4 _ rfl
    have t5 := hI.base 5 _ rfl
    have t6 := hI.got 6 10 _ rfl (hall 10 (by decide))
    have t7 := hI.got 7 11 _ rfl (hall 11 (by decide))
    obtain ⟨u1,u2,u3⟩ := hI.post (hall 6 (by decide))
    have hs9 : ∀ e,getA (srtO S.O) e = getA S.O e := fun e => getA_srtO _ _
    refine ⟨some ([1,2,3,4,5,6,7],none),x,srtO S.O,S.n,?_,⟨ArO.to u1 (Nat.le_refl _) (hs9 _) (hs9 _),⟨u2.le,fun e he hx => (hs9 e).trans (u2.old e he hx)⟩,u3⟩⟩
    show St.mk (keepT S.T [1,2,3,4,5,6,7]) _ _ = _
    simp only [St.keep,keepT,t1,t2,t3,t4,t5,t6,t7]
   rintro S1 ⟨x2,O3,n3,rfl,r1,r2,r3⟩
   have hle3 := r2.le
   have a0r : getA O3 n = some (.gh J) := by rw [r2.old n (by omega) (by simp)]; exact a0q
   have a1r : getA O3 (n + 1) = some (.box 25 (eLay awL)) := by rw [r2.old (n + 1) (by omega) (by simp)]; exact a1q
   have hpx2 := plainF (plain_eAr (.gv (giveA awL 5)) x2)
   have hid3 := oid n3
   have c0r := odl (n := n3) (d := n) (by omega)
   have c1r := odl (n := n3) (d := n + 1) (by omega)
   have kO := okO_l12one awL_ok 0 ws (by rw [aw_size,hlen]; decide) (by rw [hlen]; decide) (.gv (giveA awL 5)) (⟨awL_ok,by decide⟩ : GvOk (giveA awL 5)) rfl (by rw [hX]; exact hXl) O3 n3 r1
   rw [hX,hXb.1,hXb.2,hlen] at kO
   generalize wordsA 1424 (wordF ws) = ws2 at kO hW2
   have F12 := And.intro F11 (And.intro @hpx2 (And.intro @hid3 (And.intro @c0r (And.intro @c1r (And.intro @a0r @a1r)))))
   refine hn59 (some ([1,2,3,4,5,6,7],none)) _ ?_;refine eS fun _ hn62 _ _ => ?_;refine eO fun _ hk63 => ?_;refine tC 1 F12 ?_;refine tS 2 F12 ?_;refine tS 1 F12 ?_;refine Or.inr (evCallO_mk (kO) (sgE1 F12) (fun Jo3 ro3 Oo3 no3 hPo3 => ?_))
   obtain ⟨rfl,hle9,hfr9⟩ := hPo3
   have f0 : getA Oo3 n = some (.gh J) := by rw [hfr9 n (by omega) (by simp; omega)]; exact a0r
   have f1 : getA Oo3 (n + 1) = some (.box 25 (eLay awL)) := by rw [hfr9 (n + 1) (by omega) (by simp; omega)]; exact a1r
   have e0 := odl (n := no3) (d := n) (by omega)
   have e1 := odl (n := no3) (d := n + 1) (by omega)
   have F13 := And.intro F12 (And.intro @e0 (And.intro @e1 (And.intro @f0 @f1)))
   refine tS 3 F13 ?_;refine tS 3 F13 ?_;refine tL F13 ?_;refine hk63 _ ?_;refine hn62 (some ([1,3,4,5,7,8,9,10,11],none)) _ ?_;refine eS fun _ hn64 _ _ => ?_;refine eS fun _ hn65 _ _ => ?_;refine eO fun _ hk66 => ?_;refine tC 2 F13 ?_;refine tS 3 F13 ?_;refine tS 3 F13 ?_;refine tC 3 F13 ?_;refine tC 1 F13 ?_;refine tC 1 F13 ?_;refine tS 3 F13 ?_;refine tC 1 F13 ?_;refine tC 2 F13 ?_;refine tS 1 F13 ?_;refine Or.inl ⟨_,eqsh_bool _ _,?_⟩;refine tL F13 ?_;refine hk66 _ ?_;refine hn65 (some ([1,3,4,5,8,77],none)) _ ?_;refine eCf ?_;refine hn64 (some ([1,3,4,5,8],none)) _ ?_;refine eO fun _ hk67 => ?_;refine tL F13 ?_;refine hk67 _ ?_;refine hn57 _ ?_;refine hn56 (some ([1,2,3,4,5],none)) _ ?_;refine eO fun _ hk68 => ?_;refine tC 2 F13 ?_;refine tL F13 ?_;refine hk68 _ ?_;refine hn15 (6 - 4) (some ([1,2,3,4,5],none)) _ ?_ ?_
   all_goals try refine lp0 ?_
   ·omega
   ·refine ⟨_ + 1,_,_,_,by omega,by omega,hW2,by omega,?_,?_,rfl⟩
    ·simp only [getA,getA_delO]; (repeat rw [if_neg (by omega)]); exact f0
    ·simp only [getA,getA_delO]; (repeat rw [if_neg (by omega)]); exact f1
theorem ok_l12awake : Ok 8 [] (sB true) := ok_of_okO (okO_l12awake [] 0) rfl
end Go.Proofs.YtkmbcjnaaokilaaGreatDoor
