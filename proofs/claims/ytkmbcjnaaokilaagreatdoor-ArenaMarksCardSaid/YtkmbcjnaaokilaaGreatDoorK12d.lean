/-
  Layer 12 by shadows: the closures of the arena's codes, Next.
-/
import Derived.Test.YtkmbcjnaaokilaaGreatDoorK12c
namespace Go.Proofs.YtkmbcjnaaokilaaGreatDoor
set_option linter.unusedSimpArgs false
set_option linter.unusedVariables false
open Go.RowKit Go.Maps
theorem ArF.weak {O O' : List (Nat × Ob)} {n n' i : Nat} (h : ArF none O n O' n') : ArF (some i) O n O' n' := ⟨h.le,fun e he _ => h.old e he (by simp)⟩
theorem enters_arTake1 : Enters 36 := callFunc_enter Tryz.func36 rfl rfl
theorem enters_arLook1 : Enters 62 := callFunc_enter Tryz.func62 rfl rfl
theorem enters_arTFound1 : Enters 80 := callFunc_enter Tryz.func80 rfl rfl
theorem enters_arGive1 : Enters 39 := callFunc_enter Tryz.func39 rfl rfl
theorem enters_arGive11 : Enters 40 := callFunc_enter Tryz.func40 rfl rfl
theorem enters_arGFound1 : Enters 64 := callFunc_enter Tryz.func64 rfl rfl
theorem enters_arTNext : Enters 147 := callFunc_enter Tryz.func147 rfl rfl
theorem enters_arGNext : Enters 148 := callFunc_enter Tryz.func148 rfl rfl
theorem next_take : MethodIs 98 "Next" 147 := by intro v w; kernel_rfl
theorem next_give : MethodIs 104 "Next" 148 := by intro v w; kernel_rfl
theorem enters_tkF : ∀ k,Enters (tkF k)
 | 0 => enters_arTake1
 | 1 => enters_arLook1
 | _ + 2 => enters_arTFound1
theorem enters_gvF : ∀ k,Enters (gvF k)
 | 0 => enters_arGive1
 | 1 => enters_arGive11
 | _ + 2 => enters_arGFound1
set_option maxHeartbeats 4000000 in
theorem ok_arTake1 (s : TkM) (hs : TkOk s) (g : GotV) {nx : Sh} (hp : Plain nx) (O : List (Nat × Ob)) (n : Nat) {i gi b : Nat} (hi : i < n) (hgi : gi < n) (h1 : getA O i = some (.box 98 (cTk s nx))) (h2 : getA O gi = some (.gh (isBlk i b))) :
  OkO 36 [.agg (eGot g),rawP b] O n (ArPost none O n (arT (lookT s))) := by
 refine okO_of_trS Tryz.func36 tr_arTake1 rfl fun J => ?_
 have hid := oid n
 have hpl := plainF hp
 have o1 := odl hi
 have o2 := odl hgi
 unfold sc_arTake1 rv_arTake1
 have F1 := And.intro @hid (And.intro @hpl (And.intro @o1 (And.intro @o2 (And.intro @h1 @h2))))
 refine eS fun _ hn1 _ _ => ?_;refine eO fun _ hk2 => ?_;refine tL F1 ?_;refine hk2 _ ?_;refine hn1 (some ([1,4],none)) _ ?_;refine eS fun _ hn3 _ _ => ?_;refine eOr [(0,[.raw 1 gi])] ([]) fun _ hk4 => ?_;refine eXr ?_;refine evR_raw (i := i) (b := b) (off := 0) (sgE1 F1) (sgE1 F1) ?_;refine evR_end ?_;refine eX0 ?_;refine tC 1 F1 ?_;refine tS 1 F1 ?_;refine Or.inr (evCallO_mk (ok_arLook s hs hp _ _) (sgE1 F1) (fun Jo0 ro0 Oo0 no0 hPo0 => ?_))
 obtain ⟨L',rfl,hA,hF,hf⟩ := hPo0
 dsimp only at hA hF hf
 have g0 := hF.at (e := n) (X := .gh J) (by omega) (by simp) (sgE1 F1)
 have g3 := hF.at (e := n + 2) (X := .box 81 zActC) (by omega) (by simp) (sgE1 F1)
 have hpe := plainF (plain_eAr (arT (lookT s)).1 L')
 have F2 := And.intro F1 (And.intro @g0 (And.intro @g3 @hpe))
 refine tC 5 F2 ?_;refine tL F2 ?_;refine hk4 _ ?_;refine hn3 (some ([3,4,5],none)) _ ?_
 first | refine finO_ret (sgE1 F2) (sgE1 F2) (sgE1 F2) ?_ | refine finO_next (sgE1 F2) (sgE1 F2) (sgE1 F2) ?_
 try dsimp only
 refine ⟨L',rfl,hA.to (by omega) ?_ ?_,⟨by have := hF.le; omega,?_⟩,.inl ?_⟩
 ·obtain ⟨q1,q2⟩ | ⟨_,h,_⟩ := hf
  ·simp only [getA,getA_delO]; repeat rw [if_neg (by omega)]
  ·cases h
 ·obtain ⟨q1,q2⟩ | ⟨_,h,_⟩ := hf
  ·simp only [getA,getA_delO]; repeat rw [if_neg (by omega)]
  ·cases h
 ·intro e he hx
  simp only [getA,getA_delO]; repeat rw [if_neg (by omega)]
  rw [hF.old e (by omega) (by simp)]
  simp only [getA,getA_delO]; repeat rw [if_neg (by omega)]
 ·obtain ⟨q1,q2⟩ | ⟨_,h,_⟩ := hf
  ·exact ⟨by omega,by omega⟩
  ·cases h
set_option maxHeartbeats 4000000 in
theorem ok_arLook1 (s : TkM) (hs : TkOk s) (hne : s.parts ≠ []) (g : GotV) {nx : Sh} (hp : Plain nx) (O : List (Nat × Ob)) (n : Nat) {i gi b : Nat} (hi : i < n) (hgi : gi < n) (h1 : getA O i = some (.box 98 (cTk s nx))) (h2 : getA O gi = some (.gh (isBlk i b))) :
  OkO 62 [.agg (eGot g),rawP b] O n (ArPost none O n (arT (foundT s g.word))) := by
 refine okO_of_trS Tryz.func62 tr_arLook1 rfl fun J => ?_
 have hid := oid n
 have hpl := plainF hp
 have o1 := odl hi
 have o2 := odl hgi
 unfold sc_arLook1 rv_arLook1
 have F1 := And.intro @hid (And.intro @hpl (And.intro @o1 (And.intro @o2 (And.intro @h1 @h2))))
 refine eS fun _ hn1 _ _ => ?_;refine eO fun _ hk2 => ?_;refine tL F1 ?_;refine hk2 _ ?_;refine hn1 (some ([1,2,4],none)) _ ?_;refine eS fun _ hn3 _ _ => ?_;refine eOr [(0,[.raw 1 gi])] ([]) fun _ hk4 => ?_;refine eXr ?_;refine evR_raw (i := i) (b := b) (off := 0) (sgE1 F1) (sgE1 F1) ?_;refine evR_end ?_;refine eX0 ?_;refine tC 1 F1 ?_;refine tC 2 F1 ?_;refine tS 1 F1 ?_;refine Or.inr (evCallO_mk (ok_arTFound s hs hne g.word hp _ _) (sgE1 F1) (fun Jo0 ro0 Oo0 no0 hPo0 => ?_))
 obtain ⟨L',rfl,hA,hF,hf⟩ := hPo0
 dsimp only at hA hF hf
 have g0 := hF.at (e := n) (X := .gh J) (by omega) (by simp) (sgE1 F1)
 have g3 := hF.at (e := n + 2) (X := .box 81 zActC) (by omega) (by simp) (sgE1 F1)
 have hpe := plainF (plain_eAr (arT (foundT s g.word)).1 L')
 have F2 := And.intro F1 (And.intro @g0 (And.intro @g3 @hpe))
 refine tC 5 F2 ?_;refine tL F2 ?_;refine hk4 _ ?_;refine hn3 (some ([3,4,5],none)) _ ?_
 first | refine finO_ret (sgE1 F2) (sgE1 F2) (sgE1 F2) ?_ | refine finO_next (sgE1 F2) (sgE1 F2) (sgE1 F2) ?_
 try dsimp only
 refine ⟨L',rfl,hA.to (by omega) ?_ ?_,⟨by have := hF.le; omega,?_⟩,.inl ?_⟩
 ·obtain ⟨q1,q2⟩ | ⟨_,h,_⟩ := hf
  ·simp only [getA,getA_delO]; repeat rw [if_neg (by omega)]
  ·cases h
 ·obtain ⟨q1,q2⟩ | ⟨_,h,_⟩ := hf
  ·simp only [getA,getA_delO]; repeat rw [if_neg (by omega)]
  ·cases h
 ·intro e he hx
  simp only [getA,getA_delO]; repeat rw [if_neg (by omega)]
  rw [hF.old e (by omega) (by simp)]
  simp only [getA,getA_delO]; repeat rw [if_neg (by omega)]
 ·obtain ⟨q1,q2⟩ | ⟨_,h,_⟩ := hf
  ·exact ⟨by omega,by omega⟩
  ·cases h
def found1T (s : TkM) (g : GotV) : TkM × ActM × Bool := if g.ok = true then ({ s with fin := true },zAct,true) else foundT s g.word
set_option maxHeartbeats 4000000 in
theorem ok_arTFound1 (s : TkM) (hs : TkOk s) (hne : s.parts ≠ []) (g : GotV) {L : ArL} (hp : Plain L.nx) (O : List (Nat × Ob)) (n : Nat) (hi : L.i < n) (hgi : L.g < n) (hig : L.i ≠ L.g) (h1 : getA O L.i = some (.box 98 (cTk s L.nx))) (h2 : getA O L.g = some (.gh (isBlk L.i L.b))) :
  OkO 80 [.agg (eGot g),rawP L.b] O n (ArPost (some L) O n (arT (found1T s g))) := by
 refine okO_of_trS Tryz.func80 tr_arTFound1 rfl fun J => ?_
 obtain ⟨i,gi,b,nx⟩ := L
 simp only at hp hi hgi hig h1 h2 ⊢
 have hid := oid n
 have hpl := plainF hp
 have o1 := odl hi
 have o2 := odl hgi
 have o3 := ode hig
 obtain ⟨gw,gok⟩ := g
 cases gok
 ·have hR : found1T s ⟨gw,false⟩ = foundT s gw := if_neg (by simp)
  rw [hR]
  unfold sc_arTFound1 rv_arTFound1
  have F1 := And.intro @hid (And.intro @hpl (And.intro @o1 (And.intro @o2 (And.intro @o3 (And.intro @h1 @h2)))))
  refine eS fun K1 hn1 hr1 he1 => ?_;refine eO fun K2 hk2 => ?_;refine tL F1 ?_;refine hk2 _ ?_;refine hn1 (some ([1,2,4],none)) _ ?_;refine eS fun K3 hn3 hr3 he3 => ?_;refine eS fun K4 hn4 hr4 he4 => ?_;refine eOr [(0,[.raw 1 gi])] ([]) fun K5 hk5 => ?_;refine eXr ?_;refine evR_raw (i := i) (b := b) (off := 0) (sgE1 F1) (sgE1 F1) ?_;refine evR_end ?_;refine eX0 ?_;refine tZ F1 ?_;refine hk5 _ ?_;refine hn4 (some ([1,2,4,7],none)) _ ?_;refine eCf ?_;refine hn3 (some ([1,2,4],none)) _ ?_;refine eS fun K6 hn6 hr6 he6 => ?_;refine eO fun K7 hk7 => ?_;refine tC 1 F1 ?_;refine tC 2 F1 ?_;refine tS 1 F1 ?_;refine Or.inr (evCallO_mk (ok_arTFound s hs hne gw hp _ _) (sgE1 F1) (fun Jo0 ro0 Oo0 no0 hPo0 => ?_))
  obtain ⟨L',rfl,hA,hF,hf⟩ := hPo0
  dsimp only at hA hF hf
  have g0 := hF.at (e := n) (X := .gh J) (by omega) (by simp) (sgE1 F1)
  have g3 := hF.at (e := n + 2) (X := .box 81 zActC) (by omega) (by simp) (sgE1 F1)
  have hpe := plainF (plain_eAr (arT (foundT s gw)).1 L')
  have F2 := And.intro F1 (And.intro @g0 (And.intro @g3 @hpe))
  refine tC 5 F2 ?_;refine tL F2 ?_;refine hk7 _ ?_;refine hn6 (some ([3,4,5],none)) _ ?_
  first | refine finO_ret (sgE1 F2) (sgE1 F2) (sgE1 F2) ?_ | refine finO_next (sgE1 F2) (sgE1 F2) (sgE1 F2) ?_
  try dsimp only
  refine ⟨L',rfl,hA.to (by omega) ?_ ?_,⟨by have := hF.le; omega,?_⟩,.inl ?_⟩
  ·obtain ⟨q1,q2⟩ | ⟨_,h,_⟩ := hf
   ·simp only [getA,getA_delO]; repeat rw [if_neg (by omega)]
   ·cases h
  ·obtain ⟨q1,q2⟩ | ⟨_,h,_⟩ := hf
   ·simp only [getA,getA_delO]; repeat rw [if_neg (by omega)]
   ·cases h
  ·intro e he hx
   simp only [getA,getA_delO]; repeat rw [if_neg (by omega)]
   rw [hF.old e (by omega) (by simp)]
   simp only [getA,getA_delO]; repeat rw [if_neg (by omega)]
  ·obtain ⟨q1,q2⟩ | ⟨_,h,_⟩ := hf
   ·exact ⟨by omega,by omega⟩
   ·cases h
 ·have hR : found1T s ⟨gw,true⟩ = ({ s with fin := true },zAct,true) := if_pos rfl
  rw [hR]
  unfold sc_arTFound1 rv_arTFound1
  have F1 := And.intro @hid (And.intro @hpl (And.intro @o1 (And.intro @o2 (And.intro @o3 (And.intro @h1 @h2)))))
  refine eS fun K1 hn1 hr1 he1 => ?_;refine eO fun K2 hk2 => ?_;refine tL F1 ?_;refine hk2 _ ?_;refine hn1 (some ([1,2,4],none)) _ ?_;refine eS fun K3 hn3 hr3 he3 => ?_;refine eS fun K4 hn4 hr4 he4 => ?_;refine eOr [(0,[.raw 1 gi])] ([]) fun K5 hk5 => ?_;refine eXr ?_;refine evR_raw (i := i) (b := b) (off := 0) (sgE1 F1) (sgE1 F1) ?_;refine evR_end ?_;refine eX0 ?_;refine tZ F1 ?_;refine hk5 _ ?_;refine hn4 (some ([1,2,4,7],none)) _ ?_;refine eCt ?_;refine eS fun K6 hn6 hr6 he6 => ?_;refine eO fun K7 hk7 => ?_;refine tZ F1 ?_;refine hk7 _ ?_;refine hn6 (some ([1,4],none)) _ ?_;refine eS fun _ hn8 _ _ => ?_;refine eO fun _ hk9 => ?_;refine tC 1 F1 ?_;refine tC 4 F1 ?_;refine tL F1 ?_;refine hk9 _ ?_;refine hn8 (some ([3,4,5],none)) _ ?_;refine hr3 _ ?_
  first | refine finO_ret (sgE1 F1) (sgE1 F1) (sgE1 F1) ?_ | refine finO_next (sgE1 F1) (sgE1 F1) (sgE1 F1) ?_
  try dsimp only
  refine ⟨⟨i,gi,b,nx⟩,rfl,⟨by show i < _; omega,by show gi < _; omega,hig,hp,fun h => nomatch h⟩,⟨by omega,?_⟩,.inr ⟨_,rfl,rfl,rfl⟩⟩
  intro e he hx
  have _ : i ≠ e := fun h => hx (by rw [h]; rfl)
  simp only [getA,getA_delO]; repeat rw [if_neg (by omega)]
set_option maxHeartbeats 4000000 in
theorem ok_arGFound (s : GvM) (hs : GvOk s) (w : WordV) {nx : Sh} (hp : Plain nx) (O : List (Nat × Ob)) (n : Nat) : OkO 41 [.agg (cGv s nx),.agg (eWord w)] O n (ArPost none O n (arG (foundG s w))) := by
 refine okO_of_trS Tryz.func41 tr_arGFound rfl fun J => ?_
 have hid := oid n
 have hpl := plainF hp
 have kb := ok_layBits hs.lay s.block hs.blk
 obtain ⟨l,block,err,fin0,k⟩ := s
 simp only at kb
 cases hu : usedB w.val block
 ·have hR : foundG ⟨l,block,err,fin0,k⟩ w = (⟨l,block,13,true,k⟩,zAct,true) := if_neg (by show ¬ usedB w.val block = true; rw [hu]; simp)
  rw [hR]
  have v3 : (bitsI .and .i64 w.val (bitV block) == 0) = true := by have : (bitsI .and .i64 w.val (bitV block) != 0) = false := hu; simpa using this
  unfold sc_arGFound rv_arGFound
  have F1 := And.intro @hid (And.intro @hpl @v3)
  refine eS fun K1 hn1 hr1 he1 => ?_;refine eO fun K2 hk2 => ?_;refine tL F1 ?_;refine hk2 _ ?_;refine hn1 (some ([2,3,5],none)) _ ?_;refine eS fun K3 hn3 hr3 he3 => ?_;refine eO fun K4 hk4 => ?_;refine tC 2 F1 ?_;refine tC 2 F1 ?_;refine tS 1 F1 ?_;refine Or.inl (Or.inl ⟨_,kb,?_⟩);refine tL F1 ?_;refine hk4 _ ?_;refine hn3 (some ([2,3,5,7,8],none)) _ ?_;refine eS fun K5 hn5 hr5 he5 => ?_;refine eS fun K6 hn6 hr6 he6 => ?_;refine eO fun K7 hk7 => ?_;refine tC 2 F1 ?_;refine tS 1 F1 ?_;refine tS 1 F1 ?_;refine Or.inl ⟨_,gen_bits (.inl rfl),?_⟩;refine tZ F1 ?_;refine hk7 _ ?_;refine hn6 (some ([2,3,5,7,8,21],none)) _ ?_;refine eCt ?_;refine eS fun K8 hn8 hr8 he8 => ?_;refine eO fun K9 hk9 => ?_;refine tC 2 F1 ?_;refine tZ F1 ?_;refine hk9 _ ?_;refine hn8 (some ([2,5],none)) _ ?_;refine eS fun K10 hn10 _ _ => ?_;refine eO fun K11 hk11 => ?_;refine tC 1 F1 ?_;refine tC 4 F1 ?_;refine tL F1 ?_
  refine hk11 _ ?_;refine hn10 (some ([4,5,6],none)) _ ?_;refine hr5 _ ?_
  first | refine finO_ret (sgE1 F1) (sgE1 F1) (sgE1 F1) ?_ | refine finO_next (sgE1 F1) (sgE1 F1) (sgE1 F1) ?_
  try dsimp only
  refine ⟨⟨n + 1,n + 2,0,nx⟩,rfl,⟨by show n + 1 < _; omega,by show n + 2 < _; omega,by show n + 1 ≠ n + 2; omega,hp,fun h => nomatch h⟩,⟨by omega,frO⟩,.inl ⟨by show n < n + 1; omega,by show n < n + 2; omega⟩⟩
 ·have hR : foundG ⟨l,block,err,fin0,k⟩ w = (⟨l,block,err,fin0,2⟩,⟨6,bitP l block,w,⟨bitsI .andNot .i64 w.val (bitV block),w.ver,w.ref⟩⟩,false) := if_pos (by show usedB w.val block = true; exact hu)
  rw [hR]
  have v3 : (bitsI .and .i64 w.val (bitV block) == 0) = false := by have : (bitsI .and .i64 w.val (bitV block) != 0) = true := hu; simpa using this
  unfold sc_arGFound rv_arGFound
  have F1 := And.intro @hid (And.intro @hpl @v3)
  refine eS fun K1 hn1 hr1 he1 => ?_;refine eO fun K2 hk2 => ?_;refine tL F1 ?_;refine hk2 _ ?_;refine hn1 (some ([2,3,5],none)) _ ?_;refine eS fun K3 hn3 hr3 he3 => ?_;refine eO fun K4 hk4 => ?_;refine tC 2 F1 ?_;refine tC 2 F1 ?_;refine tS 1 F1 ?_;refine Or.inl (Or.inl ⟨_,kb,?_⟩);refine tL F1 ?_;refine hk4 _ ?_;refine hn3 (some ([2,3,5,7,8],none)) _ ?_;refine eS fun K5 hn5 hr5 he5 => ?_;refine eS fun K6 hn6 hr6 he6 => ?_;refine eO fun K7 hk7 => ?_;refine tC 2 F1 ?_;refine tS 1 F1 ?_;refine tS 1 F1 ?_;refine Or.inl ⟨_,gen_bits (.inl rfl),?_⟩;refine tZ F1 ?_;refine hk7 _ ?_;refine hn6 (some ([2,3,5,7,8,21],none)) _ ?_;refine eCf ?_;refine hn5 (some ([2,3,5,7,8],none)) _ ?_;refine eS fun K8 hn8 hr8 he8 => ?_;refine eOr [(0,[.reveal (n + 1),.unraw 2 (n + 4)]),(1,[.raw 2 (n + 4)])] ([]) fun K9 hk9 => ?_;refine eXr ?_;refine evR_reveal (sgE1 F1) fun b => ?_;refine evR_unraw (i := n + 1) (b := b) (off := 0) (sgE1 F1) (sgE1 F1) ?_
  refine evR_end ?_;refine eX fun K10 hk10 => ?_;refine tL F1 ?_;refine hk10 _ ?_;refine evR_raw (i := n + 1) (b := b) (off := 0) (sgE1 F1) (sgE1 F1) ?_;refine evR_end ?_;refine eX0 ?_;refine tZ F1 ?_;refine hk9 _ ?_;refine hn8 (some ([2,3,5,7,8],none)) _ ?_;refine eS fun K11 hn11 _ _ => ?_;refine eD [] (n := 15) fun _ hk12 => ?_;refine sq0 ?_;refine fC 1 F1 ?_;refine fC 3 F1 ?_;refine fC 2 F1 ?_;refine fS 1 F1 ?_;refine fS 1 F1 ?_;refine ⟨_,gen_bits (.inr (.inr (.inr rfl))),?_⟩;refine fC 2 F1 ?_;refine fC 2 F1 ?_;refine fL F1 ?_;refine hk12 _ ?_;refine sr0 ?_;refine tC 1 F1 ?_;refine tL F1 ?_;refine hn11 (some ([4,5,6],none)) _ ?_
  first | refine finO_ret (sgE1 F1) (sgE1 F1) (sgE1 F1) ?_ | refine finO_next (sgE1 F1) (sgE1 F1) (sgE1 F1) ?_
  try dsimp only
  refine ⟨⟨n + 1,n + 4,b,_⟩,rfl,⟨by show n + 1 < _; omega,by show n + 4 < _; omega,by show n + 1 ≠ n + 4; omega,plain_fn _ _ _,fun _ => ⟨rfl,?_,?_⟩⟩,⟨by omega,frO⟩,.inl ⟨by show n < n + 1; omega,by show n < n + 4; omega⟩⟩
  ·exact sgE1 F1
  ·exact sgE1 F1
set_option maxHeartbeats 4000000 in
theorem ok_arGive1 (s : GvM) (hs : GvOk s) (g : GotV) {L : ArL} (hp : Plain L.nx) (O : List (Nat × Ob)) (n : Nat) (hi : L.i < n) (hgi : L.g < n) (hig : L.i ≠ L.g) (h1 : getA O L.i = some (.box 104 (cGv s L.nx))) (h2 : getA O L.g = some (.gh (isBlk L.i L.b))) :
  OkO 39 [.agg (eGot g),rawP L.b,.fp [sI (bitP s.l s.block)] 0] O n (ArPost (some L) O n (.gv { s with k := 1 },⟨5,bitP s.l s.block,zWord,zWord⟩,false)) := by
 refine okO_of_trS Tryz.func39 tr_arGive1 rfl fun J => ?_
 obtain ⟨i,gi,b,nx⟩ := L
 simp only at hp hi hgi hig h1 h2 ⊢
 have hid := oid n
 have hpl := plainF hp
 have o1 := odl hi
 have o2 := odl hgi
 have o3 := ode hig
 unfold sc_arGive1 rv_arGive1
 have F1 := And.intro @hid (And.intro @hpl (And.intro @o1 (And.intro @o2 (And.intro @o3 (And.intro @h1 @h2)))))
 refine eS fun _ hn1 _ _ => ?_;refine eO fun _ hk2 => ?_;refine tL F1 ?_;refine hk2 _ ?_;refine hn1 (some ([1,2,5],none)) _ ?_;refine eS fun _ hn3 _ _ => ?_;refine eOr [(1,[.raw 1 gi])] ([]) fun _ hk4 => ?_;refine eX fun _ hk5 => ?_;refine tL F1 ?_;refine hk5 _ ?_;refine evR_raw (i := i) (b := b) (off := 0) (sgE1 F1) (sgE1 F1) ?_;refine evR_end ?_;refine eX0 ?_;refine tZ F1 ?_;refine hk4 _ ?_;refine hn3 (some ([1,2,5],none)) _ ?_;refine eS fun _ hn6 _ _ => ?_;refine eD [] (n := 5) fun _ hk7 => ?_;refine sq0 ?_;refine fC 1 F1 ?_;refine fC 2 F1 ?_;refine fL F1 ?_;refine hk7 _ ?_;refine sr0 ?_;refine tC 1 F1 ?_;refine tL F1 ?_;refine hn6 (some ([4,5,6],none)) _ ?_
 first | refine finO_ret (sgE1 F1) (sgE1 F1) (sgE1 F1) ?_ | refine finO_next (sgE1 F1) (sgE1 F1) (sgE1 F1) ?_
 try dsimp only
 refine ⟨⟨i,gi,b,_⟩,rfl,⟨by show i < _; omega,by show gi < _; omega,hig,plain_fn _ _ _,fun _ => ⟨rfl,?_,?_⟩⟩,⟨by omega,?_⟩,.inr ⟨_,rfl,rfl,rfl⟩⟩
 ·exact sgE1 F1
 ·exact sgE1 F1
 ·intro e he hx
  have _ : i ≠ e := fun h => hx (by rw [h]; rfl)
  simp only [getA,getA_delO]; repeat rw [if_neg (by omega)]
set_option maxHeartbeats 4000000 in
theorem ok_arGive11 (s : GvM) (hs : GvOk s) (g : GotV) {nx : Sh} (hp : Plain nx) (O : List (Nat × Ob)) (n : Nat) {i gi b : Nat} (hi : i < n) (hgi : gi < n) (h1 : getA O i = some (.box 104 (cGv s nx))) (h2 : getA O gi = some (.gh (isBlk i b))) :
  OkO 40 [.agg (eGot g),rawP b] O n (ArPost none O n (arG (foundG s g.word))) := by
 refine okO_of_trS Tryz.func40 tr_arGive11 rfl fun J => ?_
 have hid := oid n
 have hpl := plainF hp
 have o1 := odl hi
 have o2 := odl hgi
 unfold sc_arGive11 rv_arGive11
 have F1 := And.intro @hid (And.intro @hpl (And.intro @o1 (And.intro @o2 (And.intro @h1 @h2))))
 refine eS fun _ hn1 _ _ => ?_;refine eO fun _ hk2 => ?_;refine tL F1 ?_;refine hk2 _ ?_;refine hn1 (some ([1,2,4],none)) _ ?_;refine eS fun _ hn3 _ _ => ?_;refine eOr [(0,[.raw 1 gi])] ([]) fun _ hk4 => ?_;refine eXr ?_;refine evR_raw (i := i) (b := b) (off := 0) (sgE1 F1) (sgE1 F1) ?_;refine evR_end ?_;refine eX0 ?_;refine tC 1 F1 ?_;refine tC 2 F1 ?_;refine tS 1 F1 ?_;refine Or.inr (evCallO_mk (ok_arGFound s hs g.word hp _ _) (sgE1 F1) (fun Jo0 ro0 Oo0 no0 hPo0 => ?_))
 obtain ⟨L',rfl,hA,hF,hf⟩ := hPo0
 dsimp only at hA hF hf
 have g0 := hF.at (e := n) (X := .gh J) (by omega) (by simp) (sgE1 F1)
 have g3 := hF.at (e := n + 2) (X := .box 81 zActC) (by omega) (by simp) (sgE1 F1)
 have hpe := plainF (plain_eAr (arG (foundG s g.word)).1 L')
 have F2 := And.intro F1 (And.intro @g0 (And.intro @g3 @hpe))
 refine tC 5 F2 ?_;refine tL F2 ?_;refine hk4 _ ?_;refine hn3 (some ([3,4,5],none)) _ ?_
 first | refine finO_ret (sgE1 F2) (sgE1 F2) (sgE1 F2) ?_ | refine finO_next (sgE1 F2) (sgE1 F2) (sgE1 F2) ?_
 try dsimp only
 refine ⟨L',rfl,hA.to (by omega) ?_ ?_,⟨by have := hF.le; omega,?_⟩,.inl ?_⟩
 ·obtain ⟨q1,q2⟩ | ⟨_,h,_⟩ := hf
  ·simp only [getA,getA_delO]; repeat rw [if_neg (by omega)]
  ·cases h
 ·obtain ⟨q1,q2⟩ | ⟨_,h,_⟩ := hf
  ·simp only [getA,getA_delO]; repeat rw [if_neg (by omega)]
  ·cases h
 ·intro e he hx
  simp only [getA,getA_delO]; repeat rw [if_neg (by omega)]
  rw [hF.old e (by omega) (by simp)]
  simp only [getA,getA_delO]; repeat rw [if_neg (by omega)]
 ·obtain ⟨q1,q2⟩ | ⟨_,h,_⟩ := hf
  ·exact ⟨by omega,by omega⟩
  ·cases h
def found1G (s : GvM) (g : GotV) : GvM × ActM × Bool := if g.ok = true then ({ s with fin := true },zAct,true) else foundG s g.word
set_option maxHeartbeats 4000000 in
theorem ok_arGFound1 (s : GvM) (hs : GvOk s) (g : GotV) {L : ArL} (hp : Plain L.nx) (O : List (Nat × Ob)) (n : Nat) (hi : L.i < n) (hgi : L.g < n) (hig : L.i ≠ L.g) (h1 : getA O L.i = some (.box 104 (cGv s L.nx))) (h2 : getA O L.g = some (.gh (isBlk L.i L.b))) :
  OkO 64 [.agg (eGot g),rawP L.b] O n (ArPost (some L) O n (arG (found1G s g))) := by
 refine okO_of_trS Tryz.func64 tr_arGFound1 rfl fun J => ?_
 obtain ⟨i,gi,b,nx⟩ := L
 simp only at hp hi hgi hig h1 h2 ⊢
 have hid := oid n
 have hpl := plainF hp
 have o1 := odl hi
 have o2 := odl hgi
 have o3 := ode hig
 obtain ⟨gw,gok⟩ := g
 cases gok
 ·have hR : found1G s ⟨gw,false⟩ = foundG s gw := if_neg (by simp)
  rw [hR]
  unfold sc_arGFound1 rv_arGFound1
  have F1 := And.intro @hid (And.intro @hpl (And.intro @o1 (And.intro @o2 (And.intro @o3 (And.intro @h1 @h2)))))
  refine eS fun K1 hn1 hr1 he1 => ?_;refine eO fun K2 hk2 => ?_;refine tL F1 ?_;refine hk2 _ ?_;refine hn1 (some ([1,2,4],none)) _ ?_;refine eS fun K3 hn3 hr3 he3 => ?_;refine eS fun K4 hn4 hr4 he4 => ?_;refine eOr [(0,[.raw 1 gi])] ([]) fun K5 hk5 => ?_;refine eXr ?_;refine evR_raw (i := i) (b := b) (off := 0) (sgE1 F1) (sgE1 F1) ?_;refine evR_end ?_;refine eX0 ?_;refine tZ F1 ?_;refine hk5 _ ?_;refine hn4 (some ([1,2,4,7],none)) _ ?_;refine eCf ?_;refine hn3 (some ([1,2,4],none)) _ ?_;refine eS fun K6 hn6 hr6 he6 => ?_;refine eO fun K7 hk7 => ?_;refine tC 1 F1 ?_;refine tC 2 F1 ?_;refine tS 1 F1 ?_;refine Or.inr (evCallO_mk (ok_arGFound s hs gw hp _ _) (sgE1 F1) (fun Jo0 ro0 Oo0 no0 hPo0 => ?_))
  obtain ⟨L',rfl,hA,hF,hf⟩ := hPo0
  dsimp only at hA hF hf
  have g0 := hF.at (e := n) (X := .gh J) (by omega) (by simp) (sgE1 F1)
  have g3 := hF.at (e := n + 2) (X := .box 81 zActC) (by omega) (by simp) (sgE1 F1)
  have hpe := plainF (plain_eAr (arG (foundG s gw)).1 L')
  have F2 := And.intro F1 (And.intro @g0 (And.intro @g3 @hpe))
  refine tC 5 F2 ?_;refine tL F2 ?_;refine hk7 _ ?_;refine hn6 (some ([3,4,5],none)) _ ?_
  first | refine finO_ret (sgE1 F2) (sgE1 F2) (sgE1 F2) ?_ | refine finO_next (sgE1 F2) (sgE1 F2) (sgE1 F2) ?_
  try dsimp only
  refine ⟨L',rfl,hA.to (by omega) ?_ ?_,⟨by have := hF.le; omega,?_⟩,.inl ?_⟩
  ·obtain ⟨q1,q2⟩ | ⟨_,h,_⟩ := hf
   ·simp only [getA,getA_delO]; repeat rw [if_neg (by omega)]
   ·cases h
  ·obtain ⟨q1,q2⟩ | ⟨_,h,_⟩ := hf
   ·simp only [getA,getA_delO]; repeat rw [if_neg (by omega)]
   ·cases h
  ·intro e he hx
   simp only [getA,getA_delO]; repeat rw [if_neg (by omega)]
   rw [hF.old e (by omega) (by simp)]
   simp only [getA,getA_delO]; repeat rw [if_neg (by omega)]
  ·obtain ⟨q1,q2⟩ | ⟨_,h,_⟩ := hf
   ·exact ⟨by omega,by omega⟩
   ·cases h
 ·have hR : found1G s ⟨gw,true⟩ = ({ s with fin := true },zAct,true) := if_pos rfl
  rw [hR]
  unfold sc_arGFound1 rv_arGFound1
  have F1 := And.intro @hid (And.intro @hpl (And.intro @o1 (And.intro @o2 (And.intro @o3 (And.intro @h1 @h2)))))
  refine eS fun K1 hn1 hr1 he1 => ?_;refine eO fun K2 hk2 => ?_;refine tL F1 ?_;refine hk2 _ ?_;refine hn1 (some ([1,2,4],none)) _ ?_;refine eS fun K3 hn3 hr3 he3 => ?_;refine eS fun K4 hn4 hr4 he4 => ?_;refine eOr [(0,[.raw 1 gi])] ([]) fun K5 hk5 => ?_;refine eXr ?_;refine evR_raw (i := i) (b := b) (off := 0) (sgE1 F1) (sgE1 F1) ?_;refine evR_end ?_;refine eX0 ?_;refine tZ F1 ?_;refine hk5 _ ?_;refine hn4 (some ([1,2,4,7],none)) _ ?_;refine eCt ?_;refine eS fun K6 hn6 hr6 he6 => ?_;refine eO fun K7 hk7 => ?_;refine tZ F1 ?_;refine hk7 _ ?_;refine hn6 (some ([1,4],none)) _ ?_;refine eS fun _ hn8 _ _ => ?_;refine eO fun _ hk9 => ?_;refine tC 1 F1 ?_;refine tC 4 F1 ?_;refine tL F1 ?_;refine hk9 _ ?_;refine hn8 (some ([3,4,5],none)) _ ?_;refine hr3 _ ?_
  first | refine finO_ret (sgE1 F1) (sgE1 F1) (sgE1 F1) ?_ | refine finO_next (sgE1 F1) (sgE1 F1) (sgE1 F1) ?_
  try dsimp only
  refine ⟨⟨i,gi,b,nx⟩,rfl,⟨by show i < _; omega,by show gi < _; omega,hig,hp,fun h => nomatch h⟩,⟨by omega,?_⟩,.inr ⟨_,rfl,rfl,rfl⟩⟩
  intro e he hx
  have _ : i ≠ e := fun h => hx (by rw [h]; rfl)
  simp only [getA,getA_delO]; repeat rw [if_neg (by omega)]
end Go.Proofs.YtkmbcjnaaokilaaGreatDoor
