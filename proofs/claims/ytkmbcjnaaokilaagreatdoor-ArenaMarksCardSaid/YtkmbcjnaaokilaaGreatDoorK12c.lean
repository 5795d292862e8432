/-
  Layer 12 by shadows: what the codes of the arena do.
-/
import Derived.Test.YtkmbcjnaaokilaaGreatDoorK12b
namespace Go.Proofs.YtkmbcjnaaokilaaGreatDoor
set_option linter.unusedSimpArgs false
set_option linter.unusedVariables false
open Go.RowKit Go.Maps
theorem ArO.to {s : ArM} {L : ArL} {O O' : List (Nat × Ob)} {n n' : Nat} (h : ArO s L O n) (hn : n ≤ n') (h1 : getA O' L.i = getA O L.i) (h2 : getA O' L.g = getA O L.g) : ArO s L O' n' :=
 ⟨Nat.lt_of_lt_of_le h.i hn,Nat.lt_of_lt_of_le h.g hn,h.ne,h.pl,fun hf => by rw [h1,h2]; exact h.own hf⟩
theorem plain_eAr (s : ArM) (L : ArL) : Plain (eAr s L) := plain_ifc _ _
abbrev zActC : List Sh := [sI 0,sI 0,sI 0,sU 0,sU 0,sI 0,sU 0,sU 0]
theorem freeT_step {v : Int} {a b : Nat} (h : a < b) : freeT v a (b - a) = if usedB v a = true then freeT v (a + 1) (b - (a + 1)) else some a := by
 obtain ⟨m,hm⟩ : ∃ m,b - a = m + 1 := ⟨b - a - 1,by omega⟩
 rw [hm,show b - (a + 1) = m by omega]; rfl
def TfInv (s : TkM) (nx : Sh) (w : WordV) (J : Hp → Env → Prop) (O : List (Nat × Ob)) (n : Nat) (p : Nat × Nat) (k : Nat) (S : St) : Prop :=
 ∃ i : Nat,p.1 ≤ i ∧ i ≤ p.2 ∧ k = p.2 - i ∧ freeT w.val p.1 (p.2 - p.1) = freeT w.val i (p.2 - i) ∧
  S = ⟨[(2,.ptr (n + 1) 0 0),(3,.ptr (n + 2) 0 0),(5,.ptr (n + 3) 0 0),(7,sI i)],(n + 3,.box 81 zActC) :: (n + 2,.box 79 (eWord w)) :: (n + 1,.box 98 (cTk s nx)) :: (n,.gh J) :: O,n + 4⟩
set_option maxHeartbeats 8000000 in
theorem ok_arTFound (s : TkM) (hs : TkOk s) (hne : s.parts ≠ []) (w : WordV) {nx : Sh} (hp : Plain nx) (O : List (Nat × Ob)) (n : Nat) : OkO 63 [.agg (cTk s nx),.agg (eWord w)] O n (ArPost none O n (arT (foundT s w))) := by
 refine okO_of_trS Tryz.func63 tr_arTFound rfl fun J => ?_
 have hid := oid n
 have hpl := plainF hp
 obtain ⟨l,parts,g,block,err,fin0,k⟩ := s
 cases parts with
 | nil => exact absurd rfl hne
 | cons p ps =>
  have hr := hs.rng p (List.mem_cons_self ..)
  have hlb := (checkL_zero hs.lay).1.2.2
  simp only at hr hlb
  have hg : (g = 1) = False := eq_false hs.g
  have hs2 : TkOk ⟨l,ps,2,block,err,fin0,k⟩ := ⟨hs.lay,by simp,fun q hq => hs.rng q (List.mem_cons_of_mem _ hq)⟩
  have k0 := fun (i : Nat) (hi : i < p.2) => ok_layBits hs.lay i (by have := hr.2; simp only; omega)
  simp only at k0
  unfold sc_arTFound rv_arTFound
  have F1 := And.intro @hid @hpl
  refine eS fun _ hn1 _ _ => ?_;refine eO fun _ hk2 => ?_;refine tL F1 ?_;refine hk2 _ ?_;refine hn1 (some ([2,3,5],none)) _ ?_;refine eS fun _ hn3 hr3 _ => ?_;refine eS fun _ hn4 _ _ => ?_;refine eO fun _ hk5 => ?_;refine tC 2 F1 ?_;refine tC 1 F1 ?_;refine tC 2 F1 ?_;refine tL F1 ?_;refine hk5 _ ?_;refine hn4 (some ([2,3,5,7],none)) _ ?_;refine eB fun _ _ hx6 hr6 _ => ?_;refine eW (TfInv ⟨l,p :: ps,g,block,err,fin0,k⟩ nx w J O n p) (p.2 - p.1) (some ([2,3,5,7],none)) ([]) ?_ ?_
  ·try refine lp0 ?_
   exact ⟨p.1,by omega,by omega,rfl,rfl,rfl⟩
  ·intro k S1 hI
   obtain ⟨i,hi1,hi2,rfl,hfr,rfl⟩ := hI
   have hcase : i = p.2 ∨ (i < p.2 ∧ usedB w.val i = true) ∨ (i < p.2 ∧ usedB w.val i = false) := by
    rcases Nat.lt_or_ge i p.2 with h | h
    ·cases hu : usedB w.val i
     ·exact .inr (.inr ⟨h,rfl⟩)
     ·exact .inr (.inl ⟨h,rfl⟩)
    ·exact .inl (by omega)
   intro _ hn7 hr7 he7
   rcases hcase with hcc | ⟨hcc,hu⟩ | ⟨hcc,hu⟩
   ·skip
    have v1 : ¬ (i : Int) < (p.2 : Int) := by omega
    have hR : foundT ⟨l,p :: ps,g,block,err,fin0,k⟩ w = lookT ⟨l,ps,2,block,err,fin0,k⟩ := by
     unfold foundT
     simp only
     rw [hfr,hcc,Nat.sub_self]; rfl
    have F2 := And.intro F1 (And.intro @v1 @hg)
    refine eS fun _ _ _ he8 => ?_;refine eS fun _ hn9 _ _ => ?_;refine eO fun _ hk10 => ?_;refine tC 3 F2 ?_;refine tC 1 F2 ?_;refine tC 2 F2 ?_;refine tZ F2 ?_;refine hk10 _ ?_;refine hn9 (some ([2,3,5,7,21],none)) _ ?_;refine eCf ?_;refine he8 0 _ ?_;refine he7 0 _ ?_;refine hx6 _ ?_;refine hn3 (some ([2,5],none)) _ ?_;refine eS fun _ hn11 _ _ => ?_;refine eO fun _ hk12 => ?_;refine tC 2 F2 ?_;refine tC 1 F2 ?_;refine tZ F2 ?_;refine hk12 _ ?_;refine hn11 (some ([2,5],none)) _ ?_;refine eS fun _ hn13 _ _ => ?_;refine eO fun _ hk14 => ?_;refine tC 1 F2 ?_;refine tS 1 F2 ?_;refine Or.inr (evCallO_mk (ok_arLook _ hs2 hp _ _) (sgE1 F2) (fun Jo1 ro1 Oo1 no1 hPo1 => ?_))
    obtain ⟨L',rfl,hA,hF,hf⟩ := hPo1
    dsimp only at hA hF hf
    have g0 := hF.at (e := n) (X := .gh J) (by omega) (by simp) (sgE1 F2)
    have g3 := hF.at (e := n + 3) (X := .box 81 zActC) (by omega) (by simp) (sgE1 F2)
    have hpe := plainF (plain_eAr (arT (lookT ⟨l,ps,2,block,err,fin0,k⟩)).1 L')
    have F3 := And.intro F2 (And.intro @g0 (And.intro @g3 @hpe))
    refine tC 5 F3 ?_;refine tL F3 ?_;refine hk14 _ ?_;refine hn13 (some ([4,5,6],none)) _ ?_
    first | refine finO_ret (sgE1 F3) (sgE1 F3) (sgE1 F3) ?_ | refine finO_next (sgE1 F3) (sgE1 F3) (sgE1 F3) ?_
    try dsimp only
    rw [hR]
    refine ⟨L',rfl,hA.to (by omega) ?_ ?_,⟨by have := hF.le; omega,?_⟩,.inl ?_⟩
    ·obtain ⟨q1,q2⟩ | ⟨_,h,_⟩ := hf
     ·simp only [getA,getA_delO]; repeat rw [if_neg (by omega)]
     ·cases h
    ·obtain ⟨q1,q2⟩ | ⟨_,h,_⟩ := hf
     ·simp only [getA,getA_delO]; repeat rw [if_neg (by omega)]
     ·cases h
    ·intro e he hx
     simp only [getA,getA_delO]; repeat rw [if_neg (by omega)]
     rw [hF.old e (by omega) (by simp)]
     simp only [getA,getA_delO]; repeat rw [if_neg (by omega)]
    ·obtain ⟨q1,q2⟩ | ⟨_,h,_⟩ := hf
     ·exact ⟨by omega,by omega⟩
     ·cases h
   ·skip
    have v1 : (i : Int) < (p.2 : Int) := by omega
    have v2 : IntKind.i64.wrap ((i : Int) + 1) = ((i + 1 : Nat) : Int) := by rw [IntKind.wrap_i64]; omega
    have kb := k0 i hcc
    have v3 : (bitsI .and .i64 w.val (bitV i) != 0) = true := hu
    have F4 := And.intro F1 (And.intro @v1 (And.intro @v2 @v3))
    refine eS fun _ hn15 _ _ => ?_;refine eS fun _ hn16 _ _ => ?_;refine eO fun _ hk17 => ?_;refine tC 3 F4 ?_;refine tC 1 F4 ?_;refine tC 2 F4 ?_;refine tZ F4 ?_;refine hk17 _ ?_;refine hn16 (some ([2,3,5,7,21],none)) _ ?_;refine eCt ?_;refine hn15 (some ([2,3,5,7],none)) _ ?_;refine eS fun _ hn18 _ _ => ?_;refine eB fun _ _ hx19 _ _ => ?_;refine eS fun _ hn20 _ _ => ?_;refine eO fun _ hk21 => ?_;refine tC 2 F4 ?_;refine tS 1 F4 ?_;refine tS 1 F4 ?_;refine Or.inl (Or.inl ⟨_,kb,?_⟩);refine tL F4 ?_;refine hk21 _ ?_;refine hn20 (some ([2,3,5,7,8,9],none)) _ ?_;refine eS fun _ _ _ he22 => ?_;refine eS fun _ hn23 _ _ => ?_;refine eO fun _ hk24 => ?_;refine tC 2 F4 ?_;refine tS 1 F4 ?_;refine tS 1 F4 ?_;refine Or.inl ⟨_,gen_bits (.inl rfl),?_⟩;refine tZ F4 ?_;refine hk24 _ ?_;refine hn23 (some ([2,3,5,7,8,9,35],none)) _ ?_;refine eCt ?_;refine he22 1 _ ?_;refine hx19 _ ?_;refine hn18 (some ([2,3,5,7],none)) _ ?_
    refine eO fun _ hk25 => ?_;refine tC 2 F4 ?_;refine tL F4 ?_;refine hk25 _ ?_;refine hn7 (p.2 - (i + 1)) (some ([2,3,5,7],none)) _ ?_ ?_
    all_goals try refine lp0 ?_
    ·omega
    ·exact ⟨i + 1,by omega,by omega,rfl,by rw [hfr,freeT_step hcc,if_pos hu],rfl⟩
   ·skip
    have v1 : (i : Int) < (p.2 : Int) := by omega
    have kb := k0 i hcc
    have v3 : (bitsI .and .i64 w.val (bitV i) != 0) = false := hu
    have hR : foundT ⟨l,p :: ps,g,block,err,fin0,k⟩ w = (⟨l,p :: ps,g,(i : Int),err,fin0,2⟩,⟨6,bitP l i,w,⟨bitsI .or .i64 w.val (bitV i),w.ver,w.ref⟩⟩,false) := by
     unfold foundT
     simp only
     rw [hfr,freeT_step hcc,if_neg (by rw [hu]; simp)]
    have F5 := And.intro F1 (And.intro @v1 @v3)
    refine eS fun _ hn26 _ _ => ?_;refine eS fun _ hn27 _ _ => ?_;refine eO fun _ hk28 => ?_;refine tC 3 F5 ?_;refine tC 1 F5 ?_;refine tC 2 F5 ?_;refine tZ F5 ?_;refine hk28 _ ?_;refine hn27 (some ([2,3,5,7,21],none)) _ ?_;refine eCt ?_;refine hn26 (some ([2,3,5,7],none)) _ ?_;refine eS fun _ _ hr29 _ => ?_;refine eB fun _ _ _ hr30 _ => ?_;refine eS fun _ hn31 _ _ => ?_;refine eO fun _ hk32 => ?_;refine tC 2 F5 ?_;refine tS 1 F5 ?_;refine tS 1 F5 ?_;refine Or.inl (Or.inl ⟨_,kb,?_⟩);refine tL F5 ?_;refine hk32 _ ?_;refine hn31 (some ([2,3,5,7,8,9],none)) _ ?_;refine eS fun _ hn33 _ _ => ?_;refine eS fun _ hn34 _ _ => ?_;refine eO fun _ hk35 => ?_;refine tC 2 F5 ?_;refine tS 1 F5 ?_;refine tS 1 F5 ?_;refine Or.inl ⟨_,gen_bits (.inl rfl),?_⟩;refine tZ F5 ?_;refine hk35 _ ?_;refine hn34 (some ([2,3,5,7,8,9,35],none)) _ ?_;refine eCf ?_;refine hn33 (some ([2,3,5,7,8,9],none)) _ ?_
    refine eS fun _ hn36 _ _ => ?_;refine eO fun _ hk37 => ?_;refine tZ F5 ?_;refine hk37 _ ?_;refine hn36 (some ([2,3,5,8,9],none)) _ ?_;refine eS fun _ hn38 _ _ => ?_;refine eOr [(0,[.reveal (n + 1),.unraw 2 (n + 4)]),(1,[.raw 2 (n + 4)])] ([]) fun _ hk39 => ?_;refine eXr ?_;refine evR_reveal (sgE1 F5) fun b => ?_;refine evR_unraw (i := n + 1) (b := b) (off := 0) (sgE1 F5) (sgE1 F5) ?_;refine evR_end ?_;refine eX fun _ hk40 => ?_;refine tL F5 ?_;refine hk40 _ ?_;refine evR_raw (i := n + 1) (b := b) (off := 0) (sgE1 F5) (sgE1 F5) ?_;refine evR_end ?_;refine eX0 ?_;refine tZ F5 ?_;refine hk39 _ ?_;refine hn38 (some ([2,3,5,8,9],none)) _ ?_;refine eS fun _ hn41 _ _ => ?_;refine eD [] (n := 15) fun _ hk42 => ?_;refine sq0 ?_;refine fC 1 F5 ?_;refine fC 3 F5 ?_;refine fC 2 F5 ?_;refine fS 1 F5 ?_;refine fS 1 F5 ?_;refine ⟨_,gen_bits (.inr (.inl rfl)),?_⟩;refine fC 2 F5 ?_;refine fC 2 F5 ?_
    refine fL F5 ?_;refine hk42 _ ?_;refine sr0 ?_;refine tC 1 F5 ?_;refine tL F5 ?_;refine hn41 (some ([4,5,6],none)) _ ?_;refine hr30 _ ?_;refine hr29 _ ?_;refine hr7 _ ?_;refine hr6 _ ?_;refine hr3 _ ?_
    first | refine finO_ret (sgE1 F5) (sgE1 F5) (sgE1 F5) ?_ | refine finO_next (sgE1 F5) (sgE1 F5) (sgE1 F5) ?_
    try dsimp only
    rw [hR]
    refine ⟨⟨n + 1,n + 4,b,_⟩,rfl,⟨by show n + 1 < _; omega,by show n + 4 < _; omega,by show n + 1 ≠ n + 4; omega,plain_fn _ _ _,fun _ => ⟨rfl,?_,?_⟩⟩,⟨by omega,frO⟩,.inl ⟨by show n < n + 1; omega,by show n < n + 4; omega⟩⟩
    ·exact sgE1 F1
    ·exact sgE1 F1
end Go.Proofs.YtkmbcjnaaokilaaGreatDoor
