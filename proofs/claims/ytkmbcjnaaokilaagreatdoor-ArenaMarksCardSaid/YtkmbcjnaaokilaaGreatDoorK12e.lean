/-
  Layer 12 by shadows: Next of the arena's codes; Take, Give, Block.
-/
import Derived.Test.YtkmbcjnaaokilaaGreatDoorK12d
namespace Go.Proofs.YtkmbcjnaaokilaaGreatDoor
set_option linter.unusedSimpArgs false
set_option linter.unusedVariables false
open Go.RowKit Go.Maps
theorem OkO.mono {f : FuncId} {l : List Sh} {O : List (Nat × Ob)} {n : Nat} {P P' : (Hp → Env → Prop) → Sh → List (Nat × Ob) → Nat → Prop} (h : OkO f l O n P) (hP : ∀ J r O' n',P J r O' n' → P' J r O' n') : OkO f l O n P' := by
 intro J N w0 H0 E a w H vs hS hv
 refine Calls.mono (h J N w0 H0 E a w H vs hS hv) ?_
 rintro e w' ⟨v,r,O',n',E',H',h1,h2,h3⟩
 exact ⟨v,r,O',n',E',H',h1,hP _ _ _ _ h2,h3⟩
theorem ArPost.weak {O O' : List (Nat × Ob)} {n n' : Nat} {R : ArM × ActM × Bool} {J : Hp → Env → Prop} {r : Sh} (L : ArL) (h : ArPost none O n R J r O' n') : ArPost (some L) O n R J r O' n' := by
 obtain ⟨L',h1,h2,h3,h4⟩ := h
 refine ⟨L',h1,h2,h3.weak,?_⟩
 rcases h4 with h | ⟨_,h,_⟩
 ·exact .inl h
 ·cases h
theorem fn_arTNext (s : TkM) (hs : TkOk s) (hl : TkLv s) (hf : s.fin = false) (g : GotV) {L : ArL} (hp : Plain L.nx) (O : List (Nat × Ob)) (n : Nat) (h1 : L.i < n) (h2 : L.g < n) (hig : L.i ≠ L.g) (h3 : getA O L.i = some (.box 98 (cTk s L.nx))) (h4 : getA O L.g = some (.gh (isBlk L.i L.b))) :
  OkO (tkF s.k) (.agg (eGot g) :: [rawP L.b]) O n (ArPost (some L) O n (arT (nextT s g))) := by
 obtain ⟨l,parts,gq,block,err,fin0,k⟩ := s
 simp only at hf
 subst hf
 match k with
 | 0 => exact (ok_arTake1 _ hs g hp _ _ h1 h2 h3 h4).mono fun _ _ _ _ h => h.weak _
 | 1 => exact (ok_arLook1 _ hs (hl rfl (by simp)) g hp _ _ h1 h2 h3 h4).mono fun _ _ _ _ h => h.weak _
 | k + 2 =>
  have e : nextT ⟨l,parts,gq,block,err,false,k + 2⟩ g = found1T ⟨l,parts,gq,block,err,false,k + 2⟩ g := rfl
  rw [e]
  exact ok_arTFound1 _ hs (hl rfl (by simp)) g (L := L) hp _ _ h1 h2 hig h3 h4
set_option maxHeartbeats 4000000 in
theorem ok_arTNext (s : TkM) (hs : TkOk s) (hl : TkLv s) (g : GotV) {L : ArL} {O : List (Nat × Ob)} {n : Nat} (hA0 : ArO (.tk s) L O n) : OkO 147 [.agg (cTk s L.nx),.agg (eGot g)] O n (ArPost (some L) O n (arT (nextT s g))) := by
 refine okO_of_trS Tryz.func147 tr_arTNext rfl fun J => ?_
 have hid := oid n
 have hpl := plainF hA0.pl
 have o1 := odl hA0.i
 have o2 := odl hA0.g
 have hi := hA0.i
 have hgi := hA0.g
 cases hf : s.fin
 ·have fnx := fn_arTNext s hs hl hf g hA0.pl
  have hig := hA0.ne
  obtain ⟨hnx,h1,h2⟩ := hA0.own hf
  have hp := hA0.pl
  clear hA0
  obtain ⟨i,gi,b,nx⟩ := L
  simp only at hnx h1 h2 hp o1 o2 hpl hi hgi hig fnx ⊢
  change nx = .fn (.func (tkF s.k)) [] ([rawP b]) at hnx
  subst hnx
  change getA O i = some (.box 98 (cTk s _)) at h1
  unfold sc_arTNext rv_arTNext
  have F1 := And.intro @hid (And.intro @o1 (And.intro @o2 (And.intro @h1 (And.intro @h2 @hf))))
  refine eS fun K1 hn1 hr1 he1 => ?_;refine eO fun K2 hk2 => ?_;refine tL F1 ?_;refine hk2 _ ?_;refine hn1 (some ([2,3,5],none)) _ ?_;refine eS fun K3 hn3 hr3 he3 => ?_;refine eS fun K4 hn4 hr4 he4 => ?_;refine eO fun K5 hk5 => ?_;refine tZ F1 ?_;refine hk5 _ ?_;refine hn4 (some ([2,3,5,8],none)) _ ?_;refine eCf ?_;refine hn3 (some ([2,3,5],none)) _ ?_;refine eS fun K6 hn6 hr6 he6 => ?_;refine eO fun K7 hk7 => ?_;refine tC 2 F1 ?_;refine tC 1 F1 ?_;refine tS 1 F1 ?_;refine Or.inr (evCallvO_mk (fnx _ (n + 4) (by omega) (by omega) hig (sgE1 F1) (sgE1 F1)) (sgE1 F1) (sgE1 F1) (.inl ⟨[],_,rfl,enters_tkF _,rfl⟩) (fun Jo0 ro0 Oo0 no0 hPo0 => ?_))
  obtain ⟨L',rfl,hA,hF,hf⟩ := hPo0
  dsimp only at hA hF hf
  change ArF (some i) _ _ _ _ at hF
  have g0 := hF.at (e := n) (X := .gh J) (by omega) (by intro h; injection h; omega) (sgE1 F1)
  have g3 := hF.at (e := n + 3) (X := .box 81 zActC) (by omega) (by intro h; injection h; omega) (sgE1 F1)
  have hpe := plainF (plain_eAr (arT (nextT s g)).1 L')
  have F2 := And.intro F1 (And.intro @g0 (And.intro @g3 @hpe))
  refine tC 5 F2 ?_;refine tL F2 ?_;refine hk7 _ ?_;refine hn6 (some ([4,5,6],none)) _ ?_
  first | refine finO_ret (sgE1 F2) (sgE1 F2) (sgE1 F2) ?_ | refine finO_next (sgE1 F2) (sgE1 F2) (sgE1 F2) ?_
  try dsimp only
  refine ⟨L',rfl,hA.to (by omega) ?_ ?_,⟨by have := hF.le; omega,?_⟩,?_⟩
  ·obtain ⟨q1,q2⟩ | ⟨_,h,q1,q2⟩ := hf
   ·simp only [getA,getA_delO]; repeat rw [if_neg (by omega)]
   ·cases h; simp only at q1 q2; simp only [getA,getA_delO]; repeat rw [if_neg (by omega)]
  ·obtain ⟨q1,q2⟩ | ⟨_,h,q1,q2⟩ := hf
   ·simp only [getA,getA_delO]; repeat rw [if_neg (by omega)]
   ·cases h; simp only at q1 q2; simp only [getA,getA_delO]; repeat rw [if_neg (by omega)]
  ·intro e he hx
   simp only [getA,getA_delO]; repeat rw [if_neg (by omega)]
   rw [hF.old e (by omega) hx]
   simp only [getA,getA_delO]; repeat rw [if_neg (by omega)]
  ·obtain ⟨q1,q2⟩ | ⟨_,h,q1,q2⟩ := hf
   ·exact .inl ⟨by omega,by omega⟩
   ·exact .inr ⟨_,h,q1,q2⟩
 ·have hR : nextT s g = (s,zAct,true) := by unfold nextT; exact if_pos hf
  rw [hR]
  unfold sc_arTNext rv_arTNext
  have F1 := And.intro @hid (And.intro @hpl @hf)
  refine eS fun K1 hn1 hr1 he1 => ?_;refine eO fun K2 hk2 => ?_;refine tL F1 ?_;refine hk2 _ ?_;refine hn1 (some ([2,3,5],none)) _ ?_;refine eS fun K3 hn3 hr3 he3 => ?_;refine eS fun K4 hn4 hr4 he4 => ?_;refine eO fun K5 hk5 => ?_;refine tZ F1 ?_;refine hk5 _ ?_;refine hn4 (some ([2,3,5,8],none)) _ ?_;refine eCt ?_;refine eS fun K6 hn6 hr6 he6 => ?_;refine eO fun K7 hk7 => ?_;refine tC 1 F1 ?_;refine tC 4 F1 ?_;refine tL F1 ?_;refine hk7 _ ?_;refine hn6 (some ([4,5,6],none)) _ ?_;refine hr3 _ ?_
  first | refine finO_ret (sgE1 F1) (sgE1 F1) (sgE1 F1) ?_ | refine finO_next (sgE1 F1) (sgE1 F1) (sgE1 F1) ?_
  try dsimp only
  refine ⟨L,by rw [show eAr (arT (s,zAct,true)).1 L = .ifc 98 (.agg (cTk s L.nx)) from rfl]; simp only [cTk,hf]; rfl,⟨by show L.i < _; omega,by show L.g < _; omega,hA0.ne,hA0.pl,fun h => by rw [show finA (arT (s,zAct,true)).1 = s.fin from rfl,hf] at h; cases h⟩,⟨by omega,?_⟩,.inr ⟨_,rfl,rfl,rfl⟩⟩
  intro e he hx
  simp only [getA,getA_delO]; repeat rw [if_neg (by omega)]
theorem fn_arGNext (s : GvM) (hs : GvOk s) (hf : s.fin = false) (g : GotV) {L : ArL} (hp : Plain L.nx) (O : List (Nat × Ob)) (n : Nat) (h1 : L.i < n) (h2 : L.g < n) (hig : L.i ≠ L.g) (h3 : getA O L.i = some (.box 104 (cGv s L.nx))) (h4 : getA O L.g = some (.gh (isBlk L.i L.b))) :
  OkO (gvF s.k) (.agg (eGot g) :: gvC s L.b) O n (ArPost (some L) O n (arG (nextG s g))) := by
 obtain ⟨l,block,err,fin0,k⟩ := s
 simp only at hf
 subst hf
 match k with
 | 0 => exact ok_arGive1 _ hs g (L := L) hp _ _ h1 h2 hig h3 h4
 | 1 => exact (ok_arGive11 _ hs g hp _ _ h1 h2 h3 h4).mono fun _ _ _ _ h => h.weak _
 | k + 2 =>
  have e : nextG ⟨l,block,err,false,k + 2⟩ g = found1G ⟨l,block,err,false,k + 2⟩ g := rfl
  rw [e]
  exact ok_arGFound1 _ hs g (L := L) hp _ _ h1 h2 hig h3 h4
set_option maxHeartbeats 4000000 in
theorem ok_arGNext (s : GvM) (hs : GvOk s) (g : GotV) {L : ArL} {O : List (Nat × Ob)} {n : Nat} (hA0 : ArO (.gv s) L O n) : OkO 148 [.agg (cGv s L.nx),.agg (eGot g)] O n (ArPost (some L) O n (arG (nextG s g))) := by
 refine okO_of_trS Tryz.func148 tr_arGNext rfl fun J => ?_
 have hid := oid n
 have hpl := plainF hA0.pl
 have o1 := odl hA0.i
 have o2 := odl hA0.g
 have hi := hA0.i
 have hgi := hA0.g
 cases hf : s.fin
 ·have fnx := fn_arGNext s hs hf g hA0.pl
  have hig := hA0.ne
  obtain ⟨hnx,h1,h2⟩ := hA0.own hf
  have hp := hA0.pl
  clear hA0
  obtain ⟨i,gi,b,nx⟩ := L
  simp only at hnx h1 h2 hp o1 o2 hpl hi hgi hig fnx ⊢
  change nx = .fn (.func (gvF s.k)) [] (gvC s b) at hnx
  subst hnx
  change getA O i = some (.box 104 (cGv s _)) at h1
  unfold sc_arGNext rv_arGNext
  have F1 := And.intro @hid (And.intro @o1 (And.intro @o2 (And.intro @h1 (And.intro @h2 @hf))))
  refine eS fun K1 hn1 hr1 he1 => ?_;refine eO fun K2 hk2 => ?_;refine tL F1 ?_;refine hk2 _ ?_;refine hn1 (some ([2,3,5],none)) _ ?_;refine eS fun K3 hn3 hr3 he3 => ?_;refine eS fun K4 hn4 hr4 he4 => ?_;refine eO fun K5 hk5 => ?_;refine tZ F1 ?_;refine hk5 _ ?_;refine hn4 (some ([2,3,5,8],none)) _ ?_;refine eCf ?_;refine hn3 (some ([2,3,5],none)) _ ?_;refine eS fun K6 hn6 hr6 he6 => ?_;refine eO fun K7 hk7 => ?_;refine tC 2 F1 ?_;refine tC 1 F1 ?_;refine tS 1 F1 ?_;refine Or.inr (evCallvO_mk (fnx _ (n + 4) (by omega) (by omega) hig (sgE1 F1) (sgE1 F1)) (sgE1 F1) (sgE1 F1) (.inl ⟨[],_,rfl,enters_gvF _,rfl⟩) (fun Jo0 ro0 Oo0 no0 hPo0 => ?_))
  obtain ⟨L',rfl,hA,hF,hf⟩ := hPo0
  dsimp only at hA hF hf
  change ArF (some i) _ _ _ _ at hF
  have g0 := hF.at (e := n) (X := .gh J) (by omega) (by intro h; injection h; omega) (sgE1 F1)
  have g3 := hF.at (e := n + 3) (X := .box 81 zActC) (by omega) (by intro h; injection h; omega) (sgE1 F1)
  have hpe := plainF (plain_eAr (arG (nextG s g)).1 L')
  have F2 := And.intro F1 (And.intro @g0 (And.intro @g3 @hpe))
  refine tC 5 F2 ?_;refine tL F2 ?_;refine hk7 _ ?_;refine hn6 (some ([4,5,6],none)) _ ?_
  first | refine finO_ret (sgE1 F2) (sgE1 F2) (sgE1 F2) ?_ | refine finO_next (sgE1 F2) (sgE1 F2) (sgE1 F2) ?_
  try dsimp only
  refine ⟨L',rfl,hA.to (by omega) ?_ ?_,⟨by have := hF.le; omega,?_⟩,?_⟩
  ·obtain ⟨q1,q2⟩ | ⟨_,h,q1,q2⟩ := hf
   ·simp only [getA,getA_delO]; repeat rw [if_neg (by omega)]
   ·cases h; simp only at q1 q2; simp only [getA,getA_delO]; repeat rw [if_neg (by omega)]
  ·obtain ⟨q1,q2⟩ | ⟨_,h,q1,q2⟩ := hf
   ·simp only [getA,getA_delO]; repeat rw [if_neg (by omega)]
   ·cases h; simp only at q1 q2; simp only [getA,getA_delO]; repeat rw [if_neg (by omega)]
  ·intro e he hx
   simp only [getA,getA_delO]; repeat rw [if_neg (by omega)]
   rw [hF.old e (by omega) hx]
   simp only [getA,getA_delO]; repeat rw [if_neg (by omega)]
  ·obtain ⟨q1,q2⟩ | ⟨_,h,q1,q2⟩ := hf
   ·exact .inl ⟨by omega,by omega⟩
   ·exact .inr ⟨_,h,q1,q2⟩
 ·have hR : nextG s g = (s,zAct,true) := by unfold nextG; exact if_pos hf
  rw [hR]
  unfold sc_arGNext rv_arGNext
  have F1 := And.intro @hid (And.intro @hpl @hf)
  refine eS fun K1 hn1 hr1 he1 => ?_;refine eO fun K2 hk2 => ?_;refine tL F1 ?_;refine hk2 _ ?_;refine hn1 (some ([2,3,5],none)) _ ?_;refine eS fun K3 hn3 hr3 he3 => ?_;refine eS fun K4 hn4 hr4 he4 => ?_;refine eO fun K5 hk5 => ?_;refine tZ F1 ?_;refine hk5 _ ?_;refine hn4 (some ([2,3,5,8],none)) _ ?_;refine eCt ?_;refine eS fun K6 hn6 hr6 he6 => ?_;refine eO fun K7 hk7 => ?_;refine tC 1 F1 ?_;refine tC 4 F1 ?_;refine tL F1 ?_;refine hk7 _ ?_;refine hn6 (some ([4,5,6],none)) _ ?_;refine hr3 _ ?_
  first | refine finO_ret (sgE1 F1) (sgE1 F1) (sgE1 F1) ?_ | refine finO_next (sgE1 F1) (sgE1 F1) (sgE1 F1) ?_
  try dsimp only
  refine ⟨L,by rw [show eAr (arG (s,zAct,true)).1 L = .ifc 104 (.agg (cGv s L.nx)) from rfl]; simp only [cGv,hf]; rfl,⟨by show L.i < _; omega,by show L.g < _; omega,hA0.ne,hA0.pl,fun h => by rw [show finA (arG (s,zAct,true)).1 = s.fin from rfl,hf] at h; cases h⟩,⟨by omega,?_⟩,.inr ⟨_,rfl,rfl,rfl⟩⟩
  intro e he hx
  simp only [getA,getA_delO]; repeat rw [if_neg (by omega)]
def takeM (l : LayV) (a : Nat) : TkM := ⟨l,partsL l.blocks.toNat a,0,0,0,false,0⟩
def giveA (l : LayV) (b : Nat) : GvM := ⟨l,b,0,false,0⟩
def MkPost (O : List (Nat × Ob)) (n : Nat) (s : ArM) (_ : Hp → Env → Prop) (r : Sh) (O' : List (Nat × Ob)) (n' : Nat) : Prop :=
 ∃ L',r = .tup [eAr s L',sI 0] ∧ ArO s L' O' n' ∧ ArF none O n O' n' ∧ n < L'.i ∧ n < L'.g
theorem takeOk {l : LayV} (hl : checkL l = 0) {a : Nat} (ha : (a : Int) < l.blocks) : TkOk (takeM l a) ∧ TkLv (takeM l a) := by
 have hb := (checkL_zero hl).1.2.2
 refine ⟨⟨hl,by show (0 : Nat) ≠ 1; decide,fun p hp => ?_⟩,fun _ h => absurd rfl h⟩
 have hp : p ∈ partsL l.blocks.toNat a := hp
 unfold partsL at hp
 rcases List.mem_append.1 hp with h | h
 ·have := segs_mem _ _ h
  exact ⟨this.1,by show (p.2 : Int) ≤ l.blocks; omega⟩
 ·have := segs_mem _ _ h
  exact ⟨this.1,by show (p.2 : Int) ≤ l.blocks; omega⟩
set_option maxHeartbeats 4000000 in
theorem ok_arTake {l : LayV} (hl : checkL l = 0) (a : Nat) (ha : (a : Int) < l.blocks) (O : List (Nat × Ob)) (n : Nat) : OkO 12 [.agg (eLay l),sI a] O n (MkPost O n (.tk (takeM l a))) := by
 refine okO_of_trS Tryz.func12 tr_arTake rfl fun J => ?_
 have hid := oid n
 have hb := (checkL_zero hl).1.2.2
 have k0 := ok_arCheck l a
 rw [if_pos hl,if_pos ⟨by omega,ha⟩] at k0
 have k1 := ok_arParts l.blocks.toNat a (by omega) (by omega)
 rw [show ((l.blocks.toNat : Nat) : Int) = l.blocks by omega] at k1
 unfold takeM
 generalize partsL l.blocks.toNat a = ps at k1 ⊢
 unfold sc_arTake rv_arTake
 have F1 := @hid
 refine eS fun _ hn1 _ _ => ?_;refine eO fun _ hk2 => ?_;refine tL F1 ?_;refine hk2 _ ?_;refine hn1 (some ([1,2],none)) _ ?_;refine eS fun _ hn3 _ _ => ?_;refine eS fun _ hn4 _ _ => ?_;refine eO fun _ hk5 => ?_;refine tC 1 F1 ?_;refine tS 1 F1 ?_;refine tS 1 F1 ?_;refine Or.inl (Or.inl ⟨_,k0,?_⟩);refine tL F1 ?_;refine hk5 _ ?_;refine hn4 (some ([1,2,6],none)) _ ?_;refine eS fun _ hn6 _ _ => ?_;refine eO fun _ hk7 => ?_;refine tZ F1 ?_;refine hk7 _ ?_;refine hn6 (some ([1,2,6,12],none)) _ ?_;refine eCf ?_;refine hn3 (some ([1,2],none)) _ ?_;refine eS fun _ hn8 _ _ => ?_;refine eD [] (n := 7) fun _ hk9 => ?_;refine sq0 ?_;refine fC 1 F1 ?_;refine fC 2 F1 ?_;refine fS 1 F1 ?_;refine fS 1 F1 ?_;refine ⟨_,k1,?_⟩;refine fL F1 ?_;refine hk9 _ ?_;refine sr0 ?_;refine tZ F1 ?_;refine hn8 (some ([7],none)) _ ?_;refine eS fun _ hn11 _ _ => ?_;refine eOr [(0,[.reveal (n + 2),.unraw 7 (n + 3)]),(1,[.raw 7 (n + 3)])] ([]) fun _ hk12 => ?_
 refine eXr ?_;refine evR_reveal (sgE1 F1) fun b => ?_;refine evR_unraw (i := n + 2) (b := b) (off := 0) (sgE1 F1) (sgE1 F1) ?_;refine evR_end ?_;refine eX fun _ hk13 => ?_;refine tL F1 ?_;refine hk13 _ ?_;refine evR_raw (i := n + 2) (b := b) (off := 0) (sgE1 F1) (sgE1 F1) ?_;refine evR_end ?_;refine eX0 ?_;refine tZ F1 ?_;refine hk12 _ ?_;refine hn11 (some ([7],none)) _ ?_;refine eS fun _ hn14 _ _ => ?_;refine eO fun _ hk15 => ?_;refine tC 1 F1 ?_;refine tL F1 ?_;refine hk15 _ ?_;refine hn14 (some ([4,5],none)) _ ?_
 first | refine finO_ret (sgE1 F1) (sgE1 F1) (sgE1 F1) ?_ | refine finO_next (sgE1 F1) (sgE1 F1) (sgE1 F1) ?_
 try dsimp only
 refine ⟨⟨n + 2,n + 3,b,_⟩,rfl,⟨by show n + 2 < _; omega,by show n + 3 < _; omega,by show n + 2 ≠ n + 3; omega,plain_fn _ _ _,fun _ => ⟨rfl,?_,?_⟩⟩,⟨by omega,frO⟩,by show n < n + 2; omega,by show n < n + 3; omega⟩
 ·exact sgE1 F1
 ·exact sgE1 F1
set_option maxHeartbeats 4000000 in
theorem ok_arGive {l : LayV} (hl : checkL l = 0) (a : Nat) (ha : (a : Int) < l.blocks) (O : List (Nat × Ob)) (n : Nat) : OkO 13 [.agg (eLay l),sI a] O n (MkPost O n (.gv (giveA l a))) := by
 refine okO_of_trS Tryz.func13 tr_arGive rfl fun J => ?_
 have hid := oid n
 have k0 := ok_arCheck l a
 rw [if_pos hl,if_pos ⟨by omega,ha⟩] at k0
 have k1 := ok_layBits hl a ha
 unfold giveA
 unfold sc_arGive rv_arGive
 have F1 := @hid
 refine eS fun _ hn1 _ _ => ?_;refine eO fun _ hk2 => ?_;refine tL F1 ?_;refine hk2 _ ?_;refine hn1 (some ([1,2],none)) _ ?_;refine eS fun _ hn3 _ _ => ?_;refine eS fun _ hn4 _ _ => ?_;refine eO fun _ hk5 => ?_;refine tC 1 F1 ?_;refine tS 1 F1 ?_;refine tS 1 F1 ?_;refine Or.inl (Or.inl ⟨_,k0,?_⟩);refine tL F1 ?_;refine hk5 _ ?_;refine hn4 (some ([1,2,6],none)) _ ?_;refine eS fun _ hn6 _ _ => ?_;refine eO fun _ hk7 => ?_;refine tZ F1 ?_;refine hk7 _ ?_;refine hn6 (some ([1,2,6,14],none)) _ ?_;refine eCf ?_;refine hn3 (some ([1,2],none)) _ ?_;refine eS fun _ hn8 _ _ => ?_;refine eO fun _ hk9 => ?_;refine tC 1 F1 ?_;refine tZ F1 ?_;refine hk9 _ ?_;refine hn8 (some ([1,2,7],none)) _ ?_;refine eS fun _ hn10 _ _ => ?_;refine eO fun _ hk11 => ?_;refine tC 1 F1 ?_;refine tS 1 F1 ?_;refine tS 1 F1 ?_;refine Or.inl (Or.inl ⟨_,k1,?_⟩);refine tC 5 F1 ?_;refine tL F1 ?_;refine hk11 _ ?_;refine hn10 (some ([7,8],none)) _ ?_
 refine eS fun _ hn12 _ _ => ?_;refine eOr [(0,[.reveal (n + 2),.unraw 7 (n + 4)]),(1,[.raw 7 (n + 4)])] ([]) fun _ hk13 => ?_;refine eXr ?_;refine evR_reveal (sgE1 F1) fun b => ?_;refine evR_unraw (i := n + 2) (b := b) (off := 0) (sgE1 F1) (sgE1 F1) ?_;refine evR_end ?_;refine eX fun _ hk14 => ?_;refine tL F1 ?_;refine hk14 _ ?_;refine evR_raw (i := n + 2) (b := b) (off := 0) (sgE1 F1) (sgE1 F1) ?_;refine evR_end ?_;refine eX0 ?_;refine tZ F1 ?_;refine hk13 _ ?_;refine hn12 (some ([7],none)) _ ?_;refine eS fun _ hn15 _ _ => ?_;refine eO fun _ hk16 => ?_;refine tC 1 F1 ?_;refine tL F1 ?_;refine hk16 _ ?_;refine hn15 (some ([4,5],none)) _ ?_
 first | refine finO_ret (sgE1 F1) (sgE1 F1) (sgE1 F1) ?_ | refine finO_next (sgE1 F1) (sgE1 F1) (sgE1 F1) ?_
 try dsimp only
 refine ⟨⟨n + 2,n + 4,b,_⟩,rfl,⟨by show n + 2 < _; omega,by show n + 4 < _; omega,by show n + 2 ≠ n + 4; omega,plain_fn _ _ _,fun _ => ⟨rfl,?_,?_⟩⟩,⟨by omega,frO⟩,by show n < n + 2; omega,by show n < n + 4; omega⟩
 ·exact sgE1 F1
 ·exact sgE1 F1
end Go.Proofs.YtkmbcjnaaokilaaGreatDoor
