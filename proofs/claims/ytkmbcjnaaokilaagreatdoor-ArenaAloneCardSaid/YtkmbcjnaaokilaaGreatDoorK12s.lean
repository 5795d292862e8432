/-
  ArenaAlone by shadows.
-/
import Derived.Test.YtkmbcjnaaokilaaGreatDoorK12o
import Derived.Test.YtkmbcjnaaokilaaGreatDoorK12r
import Derived.Test.YtkmbcjnaaokilaaGreatDoorScArenaAlone
import Derived.Test.YtkmbcjnaaokilaaGreatDoorMK1
namespace Go.Proofs.YtkmbcjnaaokilaaGreatDoor
set_option linter.unusedSimpArgs false
set_option linter.unusedVariables false
open Go.RowKit Go.Maps
theorem filter_contains (U : Nat → Bool) {B c : Nat} (h : c < B) : ((List.range B).filter U).contains c = U c := by
 rw [Bool.eq_iff_iff,List.contains_iff_mem,List.mem_filter]
 exact ⟨fun h => h.2,fun h2 => ⟨List.mem_range.2 h,h2⟩⟩
theorem usedL_contains {l : LayV} (f : Int → WordV) {c : Nat} (h : c < l.blocks.toNat) : (usedL l f).contains c = usedF l f c := filter_contains _ h
theorem usedL_len (l : LayV) (f : Int → WordV) : (usedL l f).length ≤ l.blocks.toNat := by
 unfold usedL; exact Nat.le_trans (List.length_filter_le _ _) (by simp)
theorem usedL_words {l : LayV} (hl : checkL l = 0) {N : Nat} (hN : fromL l 7 ≤ (N : Int)) (f : Int → WordV) : usedL l (wordF (wordsA N f)) = usedL l f := by
 unfold usedL
 exact List.filter_congr fun c hc => used_words hl hN f (by have := List.mem_range.1 hc; omega)
theorem usedL_set (l : LayV) (f : Int → WordV) {b : Nat} (hb : b < l.blocks.toNat) : usedL l (setB l f b) = withG (usedL l f) b false := by
 unfold usedL
 rw [with_range _ hb]
 exact List.filter_congr fun c _ => used_set l f b c
theorem usedL_clr (l : LayV) (f : Int → WordV) (b : Nat) : usedL l (clrB l f b) = (usedL l f).filter (fun x => x != b) := by
 unfold usedL
 rw [without_range]
 exact List.filter_congr fun c _ => used_clr l f b c
theorem usedL_not {l : LayV} {f : Int → WordV} {b : Nat} (h : usedF l f b = false) : (usedL l f).filter (fun x => x != b) = usedL l f := by
 unfold usedL
 rw [without_range]
 refine List.filter_congr fun c _ => ?_
 by_cases e : b = c
 ·rw [← e,h]; rfl
 ·rw [decide_eq_false e]; simp
theorem bitP_mono {l : LayV} {i j : Nat} (h : i ≤ j) : bitP l i ≤ bitP l j := by unfold bitP; omega
theorem wordsA_get {N : Nat} {f : Int → WordV} {i : Nat} {y : WordV} (h : (wordsA N f)[i]? = some y) : y = f i := by
 unfold wordsA at h
 rw [List.getElem?_map] at h
 cases h1 : (List.range N)[i]? with
 | none => rw [h1] at h; cases h
 | some j =>
  rw [h1] at h
  have h2 := (List.getElem?_eq_some_iff.1 h1)
  obtain ⟨h3,h4⟩ := h2
  simp at h4
  subst h4
  exact (Option.some.inj h).symm
theorem rest_words {l : LayV} {ws : List WordV} {f : Int → WordV} (h : ∀ q : Int,(f q).ver = (wordF ws q).ver ∧ (f q).ref = (wordF ws q).ref ∧ ((f q).val = (wordF ws q).val ∨ (bitP l 0 ≤ q ∧ q ≤ bitP l (l.blocks.toNat - 1)))) : RestA l ws (wordsA ws.length f) := by
 refine ⟨(wordsA_len _ _).symm,fun i x y hx hy => ?_⟩
 have e1 := wordsA_get hy
 have e2 : wordF ws (i : Int) = x := by unfold wordF; rw [Int.toNat_natCast,hx]; rfl
 have := h i
 rw [e2] at this
 subst e1
 exact this
theorem rest_set {l : LayV} {ws : List WordV} {b : Nat} (hb : b < l.blocks.toNat) : RestA l ws (wordsA ws.length (setB l (wordF ws) b)) := rest_words fun q => by
 unfold setB
 split
 ·rename_i h; exact ⟨rfl,rfl,.inr ⟨by rw [h]; exact bitP_mono (by omega),by rw [h]; exact bitP_mono (by omega)⟩⟩
 ·exact ⟨rfl,rfl,.inl rfl⟩
theorem rest_clr {l : LayV} {ws : List WordV} {b : Nat} (hb : b < l.blocks.toNat) : RestA l ws (wordsA ws.length (clrB l (wordF ws) b)) := rest_words fun q => by
 unfold clrB
 split
 ·rename_i h; exact ⟨rfl,rfl,.inr ⟨by rw [h]; exact bitP_mono (by omega),by rw [h]; exact bitP_mono (by omega)⟩⟩
 ·exact ⟨rfl,rfl,.inl rfl⟩
theorem rest_same {l : LayV} {ws : List WordV} : RestA l ws (wordsA ws.length (wordF ws)) := rest_words fun q => ⟨rfl,rfl,.inl rfl⟩
theorem takeI_used {l : LayV} (f : Int → WordV) {m : Nat} (hm : m < l.blocks.toNat) : takeI (usedL l f).contains l.blocks.toNat m = takeI (usedF l f) l.blocks.toNat m := by
 unfold takeI
 rw [freeU_congr2 (by omega) fun i hi => usedL_contains f hi]
theorem plan_size {b : Int} (hb : 0 ≤ b) : fromL (planA 0 b) 7 ≤ 4096 := by
 obtain ⟨j,hj⟩ : ∃ j : Nat,b % 64 = (j : Int) ∧ j < 64 := ⟨(b % 64).toNat,by omega,by omega⟩
 unfold planA
 rw [hj.1]
 have : ∀ j : Nat,j < 64 → fromL ⟨1 + 0 % 4,8,1 + (j : Int)⟩ 7 ≤ 4096 := by decide +kernel
 exact this j hj.2
inductive AlStep (l : LayV) (ws : List WordV) (g : Bool) (m : Nat) : Prop
 | tn (h : g = false) (h1 : takeI (usedF l (wordF ws)) l.blocks.toNat m = -1) (X : Sol) (hX : soloA 100 (sol0 (.tk (takeM l m)) (wordF ws)) = X) (hXl : X.live = false) (hXb : blockA X.s = (0,9,true) ∧ X.f = wordF ws)
 | ts (h : g = false) (b : Nat) (hb : b < l.blocks.toNat) (h1 : takeI (usedF l (wordF ws)) l.blocks.toNat m = (b : Int)) (X : Sol) (hX : soloA 100 (sol0 (.tk (takeM l m)) (wordF ws)) = X) (hXl : X.live = false) (hXb : blockA X.s = ((b : Int),0,true) ∧ X.f = setB l (wordF ws) b)
 | gu (h : g = true) (h1 : usedF l (wordF ws) m = true) (X : Sol) (hX : soloA 100 (sol0 (.gv (giveA l m)) (wordF ws)) = X) (hXl : X.live = false) (hXb : blockA X.s = ((m : Int),0,true) ∧ X.f = clrB l (wordF ws) m)
 | gf (h : g = true) (h1 : usedF l (wordF ws) m = false) (X : Sol) (hX : soloA 100 (sol0 (.gv (giveA l m)) (wordF ws)) = X) (hXl : X.live = false) (hXb : blockA X.s = ((m : Int),13,true) ∧ X.f = wordF ws)
theorem takeU_lt {U : Nat → Bool} {B a b : Nat} (ha : a ≤ B) (h : takeU U B a = some b) : b < B := by
 unfold takeU at h
 split at h
 ·rename_i h1
  have := freeU_some h1
  cases h; omega
 ·have := freeU_some h
  omega
theorem al_step {l : LayV} (hl : checkL l = 0) (ws : List WordV) (g : Bool) {m : Nat} (hm : (m : Int) < l.blocks) : AlStep l ws g m := by
 cases g with
 | false =>
  obtain ⟨X,hX,hXl,hXc⟩ := solo_take hl hm (wordF ws)
  rcases hXc with ⟨b,h1,h2,h3⟩ | ⟨h1,h2,h3⟩
  ·exact .ts rfl b (takeU_lt (by omega) h1) (by unfold takeI; rw [h1]) X hX hXl ⟨h2,h3⟩
  ·exact .tn rfl (by unfold takeI; rw [h1]) X hX hXl ⟨h2,h3⟩
 | true =>
  obtain ⟨X,hX,hXl,hXc⟩ := solo_give (l := l) m (wordF ws)
  rcases hXc with ⟨h1,h2,h3⟩ | ⟨h1,h2,h3⟩
  ·exact .gu rfl h1 X hX hXl ⟨h2,h3⟩
  ·exact .gf rfl h1 X hX hXl ⟨h2,h3⟩
def AlInv (J : Hp → Env → Prop) (n : Nat) (l : LayV) (xs : List OpV) (N : Nat) (k : Nat) (S : St) : Prop :=
 ∃ (i : Nat) (ws : List WordV) (O1 : List (Nat × Ob)) (n1 : Nat),i ≤ xs.length ∧ k = xs.length - i ∧ ws.length = N ∧ n + 2 ≤ n1 ∧ getA O1 n = some (.gh J) ∧ getA O1 (n + 1) = some (.box 25 (eLay l)) ∧
  S = ⟨[(1,.sl 2 2 (xs.map eOp)),(5,.ptr (n + 1) 0 0),(6,.sl 3 0 (ws.map eWord)),(7,.sl 1 0 ((usedL l (wordF ws)).map eU)),(8,sI i)],O1,n1⟩
set_option maxHeartbeats 8000000 in
set_option maxRecDepth 20000 in
theorem okO_ArenaAlone {b : Int} (hb : 0 ≤ b ∧ b ≤ 255) (xs : List OpV) (hxs : ∀ x ∈ xs,0 ≤ x.n ∧ x.n ≤ 255) (O : List (Nat × Ob)) (n : Nat) : OkO 3 [.v (.int .u8 b),.sl 2 2 (xs.map eOp)] O n (fun _ r _ _ => r = sB true) := by
 refine okO_of_trS Tryz.func3 tr_ArenaAlone rfl fun J => ?_
 have hid := oid n
 by_cases hlong : (60 : Int) < (xs.length : Int)
 ·skip
  unfold sc_ArenaAlone rv_ArenaAlone
  have F1 := And.intro @hid @hlong
  refine eS fun K1 hn1 hr1 he1 => ?_;refine eO fun K2 hk2 => ?_;refine tL F1 ?_;refine hk2 _ ?_;refine hn1 (some ([0,1],none)) _ ?_;refine eS fun K3 hn3 hr3 he3 => ?_;refine eS fun K4 hn4 hr4 he4 => ?_;refine eO fun K5 hk5 => ?_;refine tZ F1 ?_;refine hk5 _ ?_;refine hn4 (some ([0,1,21],none)) _ ?_;refine eCt ?_;refine eS fun K6 hn6 hr6 he6 => ?_;refine eO fun K7 hk7 => ?_;refine tS 1 F1 ?_;refine Or.inl (Or.inl ⟨_,ok_l12awake,?_⟩);refine tL F1 ?_;refine hk7 _ ?_;refine hn6 (some ([4],none)) _ ?_;refine hr3 _ ?_
  first | refine finO_ret (sgE1 F1) (sgE1 F1) (sgE1 F1) ?_ | refine finO_next (sgE1 F1) (sgE1 F1) (sgE1 F1) ?_
  try dsimp only
  rfl
 have kp := ok_l12plan (t := 0) (b := b) ⟨by omega,by omega⟩ hb
 have hl := planA_ok (t := 0) (b := b) (by omega) hb.1
 have hsz := plan_size hb.1
 have hbl : 1 ≤ (planA 0 b).blocks := by show 1 ≤ 1 + b % 64; omega
 have hbl2 : (planA 0 b).blocks ≤ 64 := by show 1 + b % 64 ≤ 64; omega
 generalize planA 0 b = l at kp hl hsz hbl hbl2
 have kF := ok_layFirst l hl
 have hN : ((firstM l).length : Int) = fromL l 7 := by
  have h0 := (from_le (checkL_zero hl).1 7).1
  rw [firstM_len]; omega
 have hus : usedL l (wordF (firstM l)) = [] := by
  unfold usedL
  rw [List.filter_eq_nil_iff]
  intro c hc
  rw [first_used hl (by have := List.mem_range.1 hc; omega)]; simp
 generalize firstM l = ws0 at kF hN hus
 generalize hNN : ws0.length = N at hN
 unfold sc_ArenaAlone rv_ArenaAlone
 have F1 := And.intro @hid @hlong
 refine eS fun K1 hn1 hr1 he1 => ?_;refine eO fun K2 hk2 => ?_;refine tL F1 ?_;refine hk2 _ ?_;refine hn1 (some ([0,1],none)) _ ?_;refine eS fun K3 hn3 hr3 he3 => ?_;refine eS fun K4 hn4 hr4 he4 => ?_;refine eO fun K5 hk5 => ?_;refine tZ F1 ?_;refine hk5 _ ?_;refine hn4 (some ([0,1,21],none)) _ ?_;refine eCf ?_;refine hn3 (some ([0,1],none)) _ ?_;refine eS fun K6 hn6 hr6 he6 => ?_;refine eO fun K7 hk7 => ?_;refine tS 1 F1 ?_;refine tS 1 F1 ?_;refine Or.inl (Or.inl ⟨_,kp,?_⟩);refine tZ F1 ?_;refine hk7 _ ?_;refine hn6 (some ([1,5],none)) _ ?_;refine eS fun _ hn8 _ _ => ?_;refine eO fun _ hk9 => ?_;refine tC 1 F1 ?_;refine tS 1 F1 ?_;refine Or.inl (Or.inl ⟨_,kF,?_⟩);refine tL F1 ?_;refine hk9 _ ?_;refine hn8 (some ([1,5,6],none)) _ ?_;refine eS fun _ hn10 _ _ => ?_;refine eO fun _ hk11 => ?_;refine tL F1 ?_;refine hk11 _ ?_;refine hn10 (some ([1,5,6,7],none)) _ ?_;refine eS fun _ hn12 _ _ => ?_
 refine eS fun _ hn13 _ _ => ?_;refine eO fun _ hk14 => ?_;refine tL F1 ?_;refine hk14 _ ?_;refine hn13 (some ([1,5,6,7,8],none)) _ ?_;refine eB fun _ _ hx15 _ _ => ?_;refine eW (AlInv J n l xs N) (xs.length) (some ([1,5,6,7,8],none)) ([.slot 7 none 1]) ?_ ?_
 ·try refine lp0 ?_
  refine ⟨0,ws0,(n + 1,.box 25 (eLay l)) :: (n,.gh J) :: delA O (n + 1),n + 2,by omega,by omega,hNN,by omega,?_,?_,?_⟩
  ·simp [getA]
  ·simp [getA]
  ·rw [hus]; rfl
 ·intro k S1 hI
  obtain ⟨i,ws,O1,n1,hi,rfl,hlen,hle,a0,a1,rfl⟩ := hI
  have hid1 := oid n1
  have d0 := odl (n := n1) (d := n) (by omega)
  have d1 := odl (n := n1) (d := n + 1) (by omega)
  have w3 : IntKind.i64.wrap ((i : Int) + 1) = ((i + 1 : Nat) : Int) := by rw [IntKind.wrap_i64]; omega
  have hcase : i = xs.length ∨ ∃ x,xs[i]? = some x ∧ (i : Int) < (xs.length : Int) ∧ ∃ m : Nat,IntKind.i64.wrap x.n = x.n ∧ x.n.tmod l.blocks = (m : Int) ∧ (m : Int) < l.blocks := by
   rcases Nat.lt_or_ge i xs.length with h | h
   ·refine .inr ⟨_,List.getElem?_eq_getElem h,by omega,?_⟩
    have hx9 := hxs _ (List.getElem_mem h)
    generalize xs[i] = x at hx9
    have p0 := Int.emod_nonneg x.n (show l.blocks ≠ 0 by omega)
    have p1 := Int.emod_lt_of_pos x.n (show 0 < l.blocks by omega)
    exact ⟨(x.n % l.blocks).toNat,by rw [IntKind.wrap_i64]; omega,by rw [Int.tmod_eq_emod_of_nonneg hx9.1]; omega,by omega⟩
   ·exact .inl (by omega)
  have hst : i = xs.length ∨ ∃ x,xs[i]? = some x ∧ (i : Int) < (xs.length : Int) ∧ ∃ m : Nat,IntKind.i64.wrap x.n = x.n ∧ x.n.tmod l.blocks = (m : Int) ∧ (m : Int) < l.blocks ∧ AlStep l ws x.give m := by
   rcases hcase with h | ⟨x,h1,h2,m,h3,h4,h5⟩
   ·exact .inl h
   ·exact .inr ⟨x,h1,h2,m,h3,h4,h5,al_step hl ws x.give h5⟩
  have hB0 : l.blocks ≠ 0 := by omega
  have hBN : ((l.blocks.toNat : Nat) : Int) = l.blocks := by omega
  have hul := usedL_len l (wordF ws)
  intro _ hn16 _ he16
  rcases hst with hcc | ⟨x,hx1,w2,m,w4,w5,hm,⟨hg,h1,X,hX,hXl,hXb⟩ | ⟨hg,b',hb',h1,X,hX,hXl,hXb⟩ | ⟨hg,h1,X,hX,hXl,hXb⟩ | ⟨hg,h1,X,hX,hXl,hXb⟩⟩
  ·skip
   have w2 : ¬ (i : Int) < (xs.length : Int) := by omega
   have F2 := And.intro F1 (And.intro @hid1 (And.intro @d0 (And.intro @d1 (And.intro @a0 (And.intro @a1 @w2)))))
   refine eS fun _ _ _ he17 => ?_;refine eS fun _ hn18 _ _ => ?_;refine eO fun _ hk19 => ?_;refine tS 3 F2 ?_;refine tZ F2 ?_;refine hk19 _ ?_;refine hn18 (some ([1,5,6,7,8,30],none)) _ ?_;refine eCf ?_;refine he17 0 _ ?_;refine he16 0 _ ?_;refine hx15 _ ?_;refine hn12 (some ([],none)) _ ?_;refine eS fun _ hn20 _ _ => ?_;refine eO fun _ hk21 => ?_;refine tS 1 F2 ?_;refine Or.inl (Or.inl ⟨_,ok_l12awake,?_⟩);refine tL F2 ?_;refine hk21 _ ?_;refine hn20 (some ([4],none)) _ ?_
   first | refine finO_ret (sgE1 F2) (sgE1 F2) (sgE1 F2) ?_ | refine finO_next (sgE1 F2) (sgE1 F2) (sgE1 F2) ?_
   try dsimp only
   rfl
  ·skip
   have kR := ok_r12Take 0 (usedL l (wordF ws)) l.blocks.toNat m (by omega) (by omega) (by omega)
   rw [takeI_used _ (by omega),hBN,h1] at kR
   have kT := fun O n => ok_arTake hl m hm O n
   have kG := fun O n => ok_arGive hl m hm O n
   have hws2 : ∃ ws2,wordsA N (wordF ws) = ws2 ∧ ws2.length = N ∧ usedL l (wordF ws2) = usedL l (wordF ws) ∧ RestA l ws ws2 := ⟨_,rfl,wordsA_len _ _,usedL_words hl (by rw [← hN]; exact Int.le_refl _) _,by rw [← hlen]; exact rest_same⟩
   obtain ⟨ws2,ews2,hlen2,hus2,hrest⟩ := hws2
   have kU := ok_arUsed hl 0 ws2 (by rw [hlen2,hN]; exact Int.le_refl _)
   have kS := ok_r12Same 0 0 (usedL l (wordF ws2)) (usedL l (wordF ws2)) (by have := usedL_len l (wordF ws2); omega) (by have := usedL_len l (wordF ws2); omega)
   rw [decide_eq_true rfl] at kS
   have kE := ok_l12rest hl hbl 0 0 ws ws2 (by omega) hrest
   have hus3 : usedL l (wordF ws) = usedL l (wordF ws2) := hus2.symm
   have wb : (((0 : Int)) != ((0 : Int))) = false := by simp
   have F3 := And.intro F1 (And.intro @hid1 (And.intro @d0 (And.intro @d1 (And.intro @a0 (And.intro @a1 (And.intro @w2 (And.intro @w3 (And.intro @w4 (And.intro @w5 (And.intro @hB0 (And.intro @hx1 (And.intro @hg @wb))))))))))))
   refine eS fun _ hn22 _ _ => ?_;refine eS fun _ hn23 _ _ => ?_;refine eO fun _ hk24 => ?_;refine tS 3 F3 ?_;refine tZ F3 ?_;refine hk24 _ ?_;refine hn23 (some ([1,5,6,7,8,30],none)) _ ?_;refine eCt ?_;refine hn22 (some ([1,5,6,7,8],none)) _ ?_;refine eS fun _ hn25 _ _ => ?_;refine eB fun _ hn26 _ _ _ => ?_;refine eS fun _ hn27 _ _ => ?_;refine eD [] (n := 8) fun _ hk28 => ?_;refine sq0 ?_;refine fC 3 F3 ?_;refine fC 2 F3 ?_;refine fZ F3 ?_;refine hk28 _ ?_;refine sr0 ?_;refine tC 1 F3 ?_;refine tL F3 ?_;refine hn27 (some ([1,5,6,7,8,9],none)) _ ?_;refine eS fun _ hn30 _ _ => ?_;refine eO fun _ hk31 => ?_;refine tC 3 F3 ?_;refine tS 1 F3 ?_;refine tS 1 F3 ?_;refine Or.inl (Or.inl ⟨_,kR,?_⟩);refine tL F3 ?_;refine hk31 _ ?_;refine hn30 (some ([1,5,6,7,8,9,10,11],none)) _ ?_;refine eS fun _ hn32 _ _ => ?_;refine eO fun _ hk33 => ?_;refine tL F3 ?_;refine hk33 _ ?_;refine hn32 (some ([1,5,6,7,8,9,10,11,12],none)) _ ?_
   refine eS fun _ hn34 _ _ => ?_;refine eO fun _ hk35 => ?_;refine tC 1 F3 ?_;refine tS 1 F3 ?_;refine tS 1 F3 ?_;refine Or.inr (evCallO_mk (kT _ _) (sgE1 F3) (fun Jo4 ro4 Oo4 no4 hPo4 => ?_))
   obtain ⟨L1,rfl,p1,p2,p3,p4⟩ := hPo4
   have p2 : ArF none O1 n1 Oo4 no4 := p2
   have p3 : n1 < L1.i := p3
   have p4 : n1 < L1.g := p4
   have pm : MkP (.tk (takeM l m)) O1 n1 L1 (delA Oo4 n1) no4 := MkP.of p1 p2 p3 p4
   have pl1 := pm.fr.le
   have f0 : getA Oo4 n = some (.gh J) := by rw [p2.old n (by show n < n1; omega) (by simp)]; exact a0
   have f1 : getA Oo4 (n + 1) = some (.box 25 (eLay l)) := by rw [p2.old (n + 1) (by show n + 1 < n1; omega) (by simp)]; exact a1
   have hid4 := oid no4
   have e40 := odl (n := no4) (d := n) (by omega)
   have e41 := odl (n := no4) (d := n + 1) (by omega)
   have z0 : getA (delA Oo4 n1) n = some (.gh J) := by rw [getA_delO,if_neg (by omega)]; exact f0
   have z1 : getA (delA Oo4 n1) (n + 1) = some (.box 25 (eLay l)) := by rw [getA_delO,if_neg (by omega)]; exact f1
   have hpx := plainF (plain_eAr (.tk (takeM l m)) L1)
   have kO := okO_l12one hl 0 ws (by rw [hlen,hN]; exact Int.le_refl _) (by omega) (.tk (takeM l m)) (takeOk hl hm) rfl (by rw [hX]; exact hXl) (delA Oo4 n1) no4 pm.own
   rw [hX,hXb.1,hXb.2,hlen,ews2] at kO
   have F4 := And.intro F3 (And.intro @hid4 (And.intro @e40 (And.intro @e41 (And.intro @f0 (And.intro @f1 @hpx)))))
   refine tS 3 F4 ?_;refine tL F4 ?_;refine hk35 _ ?_;refine hn34 (some ([1,5,6,7,8,9,10,11,12,13,14],none)) _ ?_;refine eS fun _ hn36 _ _ => ?_;refine eS fun _ hn37 _ _ => ?_;refine eO fun _ hk38 => ?_;refine tC 3 F4 ?_;refine tZ F4 ?_;refine hk38 _ ?_;refine hn37 (some ([1,5,6,7,8,9,10,11,12,13,14,58],none)) _ ?_;refine eCf ?_;refine eS fun _ hn39 _ _ => ?_;refine eO fun _ hk40 => ?_;refine tZ F4 ?_;refine hk40 _ ?_;refine hn39 (some ([1,5,6,7,8,10,11,12,13,14,74],none)) _ ?_;refine eCt ?_;refine eO fun _ hk41 => ?_;refine tL F4 ?_;refine hk41 _ ?_;refine hn36 (some ([1,5,6,8,10,11,12,13,14],none)) _ ?_;refine eS fun _ hn42 _ _ => ?_;refine eO fun _ hk43 => ?_;refine tC 1 F4 ?_;refine tS 2 F4 ?_;refine tS 1 F4 ?_;refine Or.inr (evCallO_mk (kO) (sgE1 F4) (fun Jo9 ro9 Oo9 no9 hPo9 => ?_))
   obtain ⟨rfl,hle9,hfr9⟩ := hPo9
   have f90 : getA Oo9 n = some (.gh J) := by rw [hfr9 n (by show n < no4; omega) (by simp; omega)]; exact z0
   have f91 : getA Oo9 (n + 1) = some (.box 25 (eLay l)) := by rw [hfr9 (n + 1) (by show n + 1 < no4; omega) (by simp; omega)]; exact z1
   have hle9 : no4 ≤ no9 := hle9
   have hid9 := oid no9
   have e90 := odl (n := no9) (d := n) (by omega)
   have e91 := odl (n := no9) (d := n + 1) (by omega)
   have F5 := And.intro F4 (And.intro @hid9 (And.intro @e90 (And.intro @e91 (And.intro @f90 (And.intro @f91 @hus3)))))
   refine tS 3 F5 ?_;refine tS 3 F5 ?_;refine tL F5 ?_;refine hk43 _ ?_;refine hn42 (some ([1,5,6,8,10,11,12,14,15,16,17,18],none)) _ ?_;refine eS fun _ hn44 _ _ => ?_;refine eS fun _ hn45 _ _ => ?_;refine eO fun _ hk46 => ?_;refine tC 2 F5 ?_;refine tS 3 F5 ?_;refine tS 3 F5 ?_;refine tC 2 F5 ?_;refine tS 3 F5 ?_;refine tC 2 F5 ?_;refine tC 3 F5 ?_;refine tS 1 F5 ?_;refine tS 1 F5 ?_;refine Or.inl (Or.inl ⟨_,kU,?_⟩);refine tS 1 F5 ?_;refine tS 1 F5 ?_;refine Or.inl (Or.inl ⟨_,kS,?_⟩);refine tS 3 F5 ?_;refine tC 1 F5 ?_;refine tS 2 F5 ?_;refine tS 1 F5 ?_;refine Or.inl (Or.inl ⟨_,kE,?_⟩);refine tL F5 ?_;refine hk46 _ ?_;refine hn45 (some ([1,5,8,12,15,117],none)) _ ?_;refine eCf ?_;refine hn44 (some ([1,5,8,12,15],none)) _ ?_;refine eO fun _ hk47 => ?_;refine tS 3 F5 ?_;refine tL F5 ?_;refine hk47 _ ?_;refine hn26 _ ?_;refine hn25 (some ([1,5,6,7,8],none)) _ ?_;refine eO fun _ hk48 => ?_
   refine tC 2 F5 ?_;refine tL F5 ?_;refine hk48 _ ?_;refine hn16 (xs.length - (i + 1)) (some ([1,5,6,7,8],none)) _ ?_ ?_
   all_goals try refine lp0 ?_
   ·omega
   ·refine ⟨i + 1,ws2,_,_,by omega,by omega,hlen2,by omega,?_,?_,rfl⟩
    ·simp only [getA,getA_delO]; (repeat rw [if_neg (by omega)]); exact f90
    ·simp only [getA,getA_delO]; (repeat rw [if_neg (by omega)]); exact f91
  ·skip
   have kR := ok_r12Take 0 (usedL l (wordF ws)) l.blocks.toNat m (by omega) (by omega) (by omega)
   rw [takeI_used _ (by omega),hBN,h1] at kR
   have kT := fun O n => ok_arTake hl m hm O n
   have kG := fun O n => ok_arGive hl m hm O n
   have wn : ¬ (b' : Int) < 0 := by omega
   have kW := ok_r12With 0 (usedL l (wordF ws)) b' (by omega)
   rw [← usedL_set l (wordF ws) hb'] at kW
   have hws2 : ∃ ws2,wordsA N (setB l (wordF ws) b') = ws2 ∧ ws2.length = N ∧ usedL l (wordF ws2) = usedL l (setB l (wordF ws) b') ∧ RestA l ws ws2 := ⟨_,rfl,wordsA_len _ _,usedL_words hl (by rw [← hN]; exact Int.le_refl _) _,by rw [← hlen]; exact rest_set hb'⟩
   obtain ⟨ws2,ews2,hlen2,hus2,hrest⟩ := hws2
   have kU := ok_arUsed hl 0 ws2 (by rw [hlen2,hN]; exact Int.le_refl _)
   have kS := ok_r12Same 0 0 (usedL l (wordF ws2)) (usedL l (wordF ws2)) (by have := usedL_len l (wordF ws2); omega) (by have := usedL_len l (wordF ws2); omega)
   rw [decide_eq_true rfl] at kS
   have kE := ok_l12rest hl hbl 0 0 ws ws2 (by omega) hrest
   rw [← hus2] at kW
   have wb : (((b' : Int)) != ((b' : Int))) = false := by simp
   have F6 := And.intro F1 (And.intro @hid1 (And.intro @d0 (And.intro @d1 (And.intro @a0 (And.intro @a1 (And.intro @w2 (And.intro @w3 (And.intro @w4 (And.intro @w5 (And.intro @hB0 (And.intro @hx1 (And.intro @hg (And.intro @wb @wn)))))))))))))
   refine eS fun _ hn49 _ _ => ?_;refine eS fun _ hn50 _ _ => ?_;refine eO fun _ hk51 => ?_;refine tS 3 F6 ?_;refine tZ F6 ?_;refine hk51 _ ?_;refine hn50 (some ([1,5,6,7,8,30],none)) _ ?_;refine eCt ?_;refine hn49 (some ([1,5,6,7,8],none)) _ ?_;refine eS fun _ hn52 _ _ => ?_;refine eB fun _ hn53 _ _ _ => ?_;refine eS fun _ hn54 _ _ => ?_;refine eD [] (n := 8) fun _ hk55 => ?_;refine sq0 ?_;refine fC 3 F6 ?_;refine fC 2 F6 ?_;refine fZ F6 ?_;refine hk55 _ ?_;refine sr0 ?_;refine tC 1 F6 ?_;refine tL F6 ?_;refine hn54 (some ([1,5,6,7,8,9],none)) _ ?_;refine eS fun _ hn57 _ _ => ?_;refine eO fun _ hk58 => ?_;refine tC 3 F6 ?_;refine tS 1 F6 ?_;refine tS 1 F6 ?_;refine Or.inl (Or.inl ⟨_,kR,?_⟩);refine tL F6 ?_;refine hk58 _ ?_;refine hn57 (some ([1,5,6,7,8,9,10,11],none)) _ ?_;refine eS fun _ hn59 _ _ => ?_;refine eO fun _ hk60 => ?_;refine tL F6 ?_;refine hk60 _ ?_;refine hn59 (some ([1,5,6,7,8,9,10,11,12],none)) _ ?_
   refine eS fun _ hn61 _ _ => ?_;refine eO fun _ hk62 => ?_;refine tC 1 F6 ?_;refine tS 1 F6 ?_;refine tS 1 F6 ?_;refine Or.inr (evCallO_mk (kT _ _) (sgE1 F6) (fun Jo4 ro4 Oo4 no4 hPo4 => ?_))
   obtain ⟨L1,rfl,p1,p2,p3,p4⟩ := hPo4
   have p2 : ArF none O1 n1 Oo4 no4 := p2
   have p3 : n1 < L1.i := p3
   have p4 : n1 < L1.g := p4
   have pm : MkP (.tk (takeM l m)) O1 n1 L1 (delA Oo4 n1) no4 := MkP.of p1 p2 p3 p4
   have pl1 := pm.fr.le
   have f0 : getA Oo4 n = some (.gh J) := by rw [p2.old n (by show n < n1; omega) (by simp)]; exact a0
   have f1 : getA Oo4 (n + 1) = some (.box 25 (eLay l)) := by rw [p2.old (n + 1) (by show n + 1 < n1; omega) (by simp)]; exact a1
   have hid4 := oid no4
   have e40 := odl (n := no4) (d := n) (by omega)
   have e41 := odl (n := no4) (d := n + 1) (by omega)
   have z0 : getA (delA Oo4 n1) n = some (.gh J) := by rw [getA_delO,if_neg (by omega)]; exact f0
   have z1 : getA (delA Oo4 n1) (n + 1) = some (.box 25 (eLay l)) := by rw [getA_delO,if_neg (by omega)]; exact f1
   have hpx := plainF (plain_eAr (.tk (takeM l m)) L1)
   have kO := okO_l12one hl 0 ws (by rw [hlen,hN]; exact Int.le_refl _) (by omega) (.tk (takeM l m)) (takeOk hl hm) rfl (by rw [hX]; exact hXl) (delA Oo4 n1) no4 pm.own
   rw [hX,hXb.1,hXb.2,hlen,ews2] at kO
   have F7 := And.intro F6 (And.intro @hid4 (And.intro @e40 (And.intro @e41 (And.intro @f0 (And.intro @f1 @hpx)))))
   refine tS 3 F7 ?_;refine tL F7 ?_;refine hk62 _ ?_;refine hn61 (some ([1,5,6,7,8,9,10,11,12,13,14],none)) _ ?_;refine eS fun _ hn63 _ _ => ?_;refine eS fun _ hn64 _ _ => ?_;refine eO fun _ hk65 => ?_;refine tC 3 F7 ?_;refine tZ F7 ?_;refine hk65 _ ?_;refine hn64 (some ([1,5,6,7,8,9,10,11,12,13,14,58],none)) _ ?_;refine eCf ?_;refine eS fun _ hn66 _ _ => ?_;refine eO fun _ hk67 => ?_;refine tZ F7 ?_;refine hk67 _ ?_;refine hn66 (some ([1,5,6,7,8,10,11,12,13,14,74],none)) _ ?_;refine eCf ?_;refine eO fun _ hk68 => ?_;refine tS 2 F7 ?_;refine tS 1 F7 ?_;refine Or.inl (Or.inl ⟨_,kW,?_⟩);refine tL F7 ?_;refine hk68 _ ?_;refine hn63 (some ([1,5,6,8,10,11,12,13,14],none)) _ ?_;refine eS fun _ hn69 _ _ => ?_;refine eO fun _ hk70 => ?_;refine tC 1 F7 ?_;refine tS 2 F7 ?_;refine tS 1 F7 ?_;refine Or.inr (evCallO_mk (kO) (sgE1 F7) (fun Jo9 ro9 Oo9 no9 hPo9 => ?_))
   obtain ⟨rfl,hle9,hfr9⟩ := hPo9
   have f90 : getA Oo9 n = some (.gh J) := by rw [hfr9 n (by show n < no4; omega) (by simp; omega)]; exact z0
   have f91 : getA Oo9 (n + 1) = some (.box 25 (eLay l)) := by rw [hfr9 (n + 1) (by show n + 1 < no4; omega) (by simp; omega)]; exact z1
   have hle9 : no4 ≤ no9 := hle9
   have hid9 := oid no9
   have e90 := odl (n := no9) (d := n) (by omega)
   have e91 := odl (n := no9) (d := n + 1) (by omega)
   have F8 := And.intro F7 (And.intro @hid9 (And.intro @e90 (And.intro @e91 (And.intro @f90 @f91))))
   refine tS 3 F8 ?_;refine tS 3 F8 ?_;refine tL F8 ?_;refine hk70 _ ?_;refine hn69 (some ([1,5,6,8,10,11,12,14,15,16,17,18],none)) _ ?_;refine eS fun _ hn71 _ _ => ?_;refine eS fun _ hn72 _ _ => ?_;refine eO fun _ hk73 => ?_;refine tC 2 F8 ?_;refine tS 3 F8 ?_;refine tS 3 F8 ?_;refine tC 2 F8 ?_;refine tS 3 F8 ?_;refine tC 2 F8 ?_;refine tC 3 F8 ?_;refine tS 1 F8 ?_;refine tS 1 F8 ?_;refine Or.inl (Or.inl ⟨_,kU,?_⟩);refine tS 1 F8 ?_;refine tS 1 F8 ?_;refine Or.inl (Or.inl ⟨_,kS,?_⟩);refine tS 3 F8 ?_;refine tC 1 F8 ?_;refine tS 2 F8 ?_;refine tS 1 F8 ?_;refine Or.inl (Or.inl ⟨_,kE,?_⟩);refine tL F8 ?_;refine hk73 _ ?_;refine hn72 (some ([1,5,8,12,15,117],none)) _ ?_;refine eCf ?_;refine hn71 (some ([1,5,8,12,15],none)) _ ?_;refine eO fun _ hk74 => ?_;refine tS 3 F8 ?_;refine tL F8 ?_;refine hk74 _ ?_;refine hn53 _ ?_;refine hn52 (some ([1,5,6,7,8],none)) _ ?_;refine eO fun _ hk75 => ?_
   refine tC 2 F8 ?_;refine tL F8 ?_;refine hk75 _ ?_;refine hn16 (xs.length - (i + 1)) (some ([1,5,6,7,8],none)) _ ?_ ?_
   all_goals try refine lp0 ?_
   ·omega
   ·refine ⟨i + 1,ws2,_,_,by omega,by omega,hlen2,by omega,?_,?_,rfl⟩
    ·simp only [getA,getA_delO]; (repeat rw [if_neg (by omega)]); exact f90
    ·simp only [getA,getA_delO]; (repeat rw [if_neg (by omega)]); exact f91
  ·skip
   have kR := ok_r12Take 0 (usedL l (wordF ws)) l.blocks.toNat m (by omega) (by omega) (by omega)
   rw [takeI_used _ (by omega),hBN] at kR
   have kT := fun O n => ok_arTake hl m hm O n
   have kG := fun O n => ok_arGive hl m hm O n
   generalize hz : takeI (usedF l (wordF ws)) l.blocks.toNat m = z at kR
   have kI := ok_r12Is 0 (usedL l (wordF ws)) m (by omega)
   rw [usedL_contains _ (by omega),h1] at kI
   have kW := ok_r12Without 0 (usedL l (wordF ws)) m (by omega)
   rw [← usedL_clr] at kW
   have hws2 : ∃ ws2,wordsA N (clrB l (wordF ws) m) = ws2 ∧ ws2.length = N ∧ usedL l (wordF ws2) = usedL l (clrB l (wordF ws) m) ∧ RestA l ws ws2 := ⟨_,rfl,wordsA_len _ _,usedL_words hl (by rw [← hN]; exact Int.le_refl _) _,by rw [← hlen]; exact rest_clr (by omega)⟩
   obtain ⟨ws2,ews2,hlen2,hus2,hrest⟩ := hws2
   have kU := ok_arUsed hl 0 ws2 (by rw [hlen2,hN]; exact Int.le_refl _)
   have kS := ok_r12Same 0 0 (usedL l (wordF ws2)) (usedL l (wordF ws2)) (by have := usedL_len l (wordF ws2); omega) (by have := usedL_len l (wordF ws2); omega)
   rw [decide_eq_true rfl] at kS
   have kE := ok_l12rest hl hbl 0 0 ws ws2 (by omega) hrest
   rw [← hus2] at kW
   have wb : (((m : Int)) != ((m : Int))) = false := by simp
   have F9 := And.intro F1 (And.intro @hid1 (And.intro @d0 (And.intro @d1 (And.intro @a0 (And.intro @a1 (And.intro @w2 (And.intro @w3 (And.intro @w4 (And.intro @w5 (And.intro @hB0 (And.intro @hx1 (And.intro @hg @wb))))))))))))
   refine eS fun _ hn76 _ _ => ?_;refine eS fun _ hn77 _ _ => ?_;refine eO fun _ hk78 => ?_;refine tS 3 F9 ?_;refine tZ F9 ?_;refine hk78 _ ?_;refine hn77 (some ([1,5,6,7,8,30],none)) _ ?_;refine eCt ?_;refine hn76 (some ([1,5,6,7,8],none)) _ ?_;refine eS fun _ hn79 _ _ => ?_;refine eB fun _ hn80 _ _ _ => ?_;refine eS fun _ hn81 _ _ => ?_;refine eD [] (n := 8) fun _ hk82 => ?_;refine sq0 ?_;refine fC 3 F9 ?_;refine fC 2 F9 ?_;refine fZ F9 ?_;refine hk82 _ ?_;refine sr0 ?_;refine tC 1 F9 ?_;refine tL F9 ?_;refine hn81 (some ([1,5,6,7,8,9],none)) _ ?_;refine eS fun _ hn84 _ _ => ?_;refine eO fun _ hk85 => ?_;refine tC 3 F9 ?_;refine tS 1 F9 ?_;refine tS 1 F9 ?_;refine Or.inl (Or.inl ⟨_,kR,?_⟩);refine tL F9 ?_;refine hk85 _ ?_;refine hn84 (some ([1,5,6,7,8,9,10,11],none)) _ ?_;refine eS fun _ hn86 _ _ => ?_;refine eO fun _ hk87 => ?_;refine tL F9 ?_;refine hk87 _ ?_;refine hn86 (some ([1,5,6,7,8,9,10,11,12],none)) _ ?_
   refine eS fun _ hn88 _ _ => ?_;refine eO fun _ hk89 => ?_;refine tC 1 F9 ?_;refine tS 1 F9 ?_;refine tS 1 F9 ?_;refine Or.inr (evCallO_mk (kT _ _) (sgE1 F9) (fun Jo4 ro4 Oo4 no4 hPo4 => ?_))
   obtain ⟨L1,rfl,p1,p2,p3,p4⟩ := hPo4
   have p2 : ArF none O1 n1 Oo4 no4 := p2
   have p3 : n1 < L1.i := p3
   have p4 : n1 < L1.g := p4
   have pm : MkP (.tk (takeM l m)) O1 n1 L1 (delA Oo4 n1) no4 := MkP.of p1 p2 p3 p4
   have pl1 := pm.fr.le
   have f0 : getA Oo4 n = some (.gh J) := by rw [p2.old n (by show n < n1; omega) (by simp)]; exact a0
   have f1 : getA Oo4 (n + 1) = some (.box 25 (eLay l)) := by rw [p2.old (n + 1) (by show n + 1 < n1; omega) (by simp)]; exact a1
   have hid4 := oid no4
   have e40 := odl (n := no4) (d := n) (by omega)
   have e41 := odl (n := no4) (d := n + 1) (by omega)
   have z0 : getA (delA Oo4 n1) n = some (.gh J) := by rw [getA_delO,if_neg (by omega)]; exact f0
   have z1 : getA (delA Oo4 n1) (n + 1) = some (.box 25 (eLay l)) := by rw [getA_delO,if_neg (by omega)]; exact f1
   have hpx := plainF (plain_eAr (.tk (takeM l m)) L1)
   have F10 := And.intro F9 (And.intro @hid4 (And.intro @e40 (And.intro @e41 (And.intro @f0 (And.intro @f1 @hpx)))))
   refine tS 3 F10 ?_;refine tL F10 ?_;refine hk89 _ ?_;refine hn88 (some ([1,5,6,7,8,9,10,11,12,13,14],none)) _ ?_;refine eS fun _ hn90 _ _ => ?_;refine eS fun _ hn91 _ _ => ?_;refine eO fun _ hk92 => ?_;refine tC 3 F10 ?_;refine tZ F10 ?_;refine hk92 _ ?_;refine hn91 (some ([1,5,6,7,8,9,10,11,12,13,14,58],none)) _ ?_;refine eCt ?_;refine eS fun _ hn93 _ _ => ?_;refine eO fun _ hk94 => ?_;refine tC 1 F10 ?_;refine tS 1 F10 ?_;refine tS 1 F10 ?_;refine Or.inr (evCallO_mk (kG _ _) (sgE1 F10) (fun Jo5 ro5 Oo5 no5 hPo5 => ?_))
   obtain ⟨L2,rfl,r1,r2,r3,r4⟩ := hPo5
   have r2 : ArF none (delA Oo4 n1) no4 Oo5 no5 := r2
   have r3 : no4 < L2.i := r3
   have r4 : no4 < L2.g := r4
   have rm : MkP (.gv (giveA l m)) (delA Oo4 n1) no4 L2 (delA Oo5 no4) no5 := MkP.of r1 r2 r3 r4
   have rl1 := rm.fr.le
   have g0 : getA Oo5 n = some (.gh J) := by rw [r2.old n (by show n < no4; omega) (by simp)]; exact z0
   have g1 : getA Oo5 (n + 1) = some (.box 25 (eLay l)) := by rw [r2.old (n + 1) (by show n + 1 < no4; omega) (by simp)]; exact z1
   have hid5 := oid no5
   have e50 := odl (n := no5) (d := n) (by omega)
   have e51 := odl (n := no5) (d := n + 1) (by omega)
   have z5 : getA (delA Oo5 no4) n = some (.gh J) := by rw [getA_delO,if_neg (by omega)]; exact g0
   have z6 : getA (delA Oo5 no4) (n + 1) = some (.box 25 (eLay l)) := by rw [getA_delO,if_neg (by omega)]; exact g1
   have hpy := plainF (plain_eAr (.gv (giveA l m)) L2)
   have kO := okO_l12one hl 0 ws (by rw [hlen,hN]; exact Int.le_refl _) (by omega) (.gv (giveA l m)) (⟨hl,hm⟩ : GvOk (giveA l m)) rfl (by rw [hX]; exact hXl) (delA Oo5 no4) no5 rm.own
   rw [hX,hXb.1,hXb.2,hlen,ews2] at kO
   have F11 := And.intro F10 (And.intro @hid5 (And.intro @e50 (And.intro @e51 (And.intro @g0 (And.intro @g1 @hpy)))))
   refine tS 3 F11 ?_;refine tL F11 ?_;refine hk94 _ ?_;refine hn93 (some ([1,5,6,7,8,9,11,13,14],none)) _ ?_;refine eS fun _ hn95 _ _ => ?_;refine eO fun _ hk96 => ?_;refine tL F11 ?_;refine hk96 _ ?_;refine hn95 (some ([1,5,6,7,8,9,10,11,13,14],none)) _ ?_;refine eS fun _ hn97 _ _ => ?_;refine eS fun _ hn98 _ _ => ?_;refine eO fun _ hk99 => ?_;refine tS 2 F11 ?_;refine tS 1 F11 ?_;refine Or.inl (Or.inl ⟨_,kI,?_⟩);refine tL F11 ?_;refine hk99 _ ?_;refine hn98 (some ([1,5,6,7,8,9,10,11,13,14,69],none)) _ ?_;refine eCf ?_;refine hn97 (some ([1,5,6,7,8,9,10,11,13,14],none)) _ ?_;refine eO fun _ hk100 => ?_;refine tS 2 F11 ?_;refine tS 1 F11 ?_;refine Or.inl (Or.inl ⟨_,kW,?_⟩);refine tL F11 ?_;refine hk100 _ ?_;refine hn90 (some ([1,5,6,8,10,11,12,13,14],none)) _ ?_;refine eS fun _ hn101 _ _ => ?_;refine eO fun _ hk102 => ?_;refine tC 1 F11 ?_;refine tS 2 F11 ?_;refine tS 1 F11 ?_
   refine Or.inr (evCallO_mk (kO) (sgE1 F11) (fun Jo9 ro9 Oo9 no9 hPo9 => ?_))
   obtain ⟨rfl,hle9,hfr9⟩ := hPo9
   have f90 : getA Oo9 n = some (.gh J) := by rw [hfr9 n (by show n < no5; omega) (by simp; omega)]; exact z5
   have f91 : getA Oo9 (n + 1) = some (.box 25 (eLay l)) := by rw [hfr9 (n + 1) (by show n + 1 < no5; omega) (by simp; omega)]; exact z6
   have hle9 : no5 ≤ no9 := hle9
   have hid9 := oid no9
   have e90 := odl (n := no9) (d := n) (by omega)
   have e91 := odl (n := no9) (d := n + 1) (by omega)
   have F12 := And.intro F11 (And.intro @hid9 (And.intro @e90 (And.intro @e91 (And.intro @f90 @f91))))
   refine tS 3 F12 ?_;refine tS 3 F12 ?_;refine tL F12 ?_;refine hk102 _ ?_;refine hn101 (some ([1,5,6,8,10,11,12,14,15,16,17,18],none)) _ ?_;refine eS fun _ hn103 _ _ => ?_;refine eS fun _ hn104 _ _ => ?_;refine eO fun _ hk105 => ?_;refine tC 2 F12 ?_;refine tS 3 F12 ?_;refine tS 3 F12 ?_;refine tC 2 F12 ?_;refine tS 3 F12 ?_;refine tC 2 F12 ?_;refine tC 3 F12 ?_;refine tS 1 F12 ?_;refine tS 1 F12 ?_;refine Or.inl (Or.inl ⟨_,kU,?_⟩);refine tS 1 F12 ?_;refine tS 1 F12 ?_;refine Or.inl (Or.inl ⟨_,kS,?_⟩);refine tS 3 F12 ?_;refine tC 1 F12 ?_;refine tS 2 F12 ?_;refine tS 1 F12 ?_;refine Or.inl (Or.inl ⟨_,kE,?_⟩);refine tL F12 ?_;refine hk105 _ ?_;refine hn104 (some ([1,5,8,12,15,117],none)) _ ?_;refine eCf ?_;refine hn103 (some ([1,5,8,12,15],none)) _ ?_;refine eO fun _ hk106 => ?_;refine tS 3 F12 ?_;refine tL F12 ?_;refine hk106 _ ?_;refine hn80 _ ?_;refine hn79 (some ([1,5,6,7,8],none)) _ ?_
   refine eO fun _ hk107 => ?_;refine tC 2 F12 ?_;refine tL F12 ?_;refine hk107 _ ?_;refine hn16 (xs.length - (i + 1)) (some ([1,5,6,7,8],none)) _ ?_ ?_
   all_goals try refine lp0 ?_
   ·omega
   ·refine ⟨i + 1,ws2,_,_,by omega,by omega,hlen2,by omega,?_,?_,rfl⟩
    ·simp only [getA,getA_delO]; (repeat rw [if_neg (by omega)]); exact f90
    ·simp only [getA,getA_delO]; (repeat rw [if_neg (by omega)]); exact f91
  ·skip
   have kR := ok_r12Take 0 (usedL l (wordF ws)) l.blocks.toNat m (by omega) (by omega) (by omega)
   rw [takeI_used _ (by omega),hBN] at kR
   have kT := fun O n => ok_arTake hl m hm O n
   have kG := fun O n => ok_arGive hl m hm O n
   generalize hz : takeI (usedF l (wordF ws)) l.blocks.toNat m = z at kR
   have kI := ok_r12Is 0 (usedL l (wordF ws)) m (by omega)
   rw [usedL_contains _ (by omega),h1] at kI
   have kW := ok_r12Without 0 (usedL l (wordF ws)) m (by omega)
   rw [usedL_not h1] at kW
   have hws2 : ∃ ws2,wordsA N (wordF ws) = ws2 ∧ ws2.length = N ∧ usedL l (wordF ws2) = usedL l (wordF ws) ∧ RestA l ws ws2 := ⟨_,rfl,wordsA_len _ _,usedL_words hl (by rw [← hN]; exact Int.le_refl _) _,by rw [← hlen]; exact rest_same⟩
   obtain ⟨ws2,ews2,hlen2,hus2,hrest⟩ := hws2
   have kU := ok_arUsed hl 0 ws2 (by rw [hlen2,hN]; exact Int.le_refl _)
   have kS := ok_r12Same 0 0 (usedL l (wordF ws2)) (usedL l (wordF ws2)) (by have := usedL_len l (wordF ws2); omega) (by have := usedL_len l (wordF ws2); omega)
   rw [decide_eq_true rfl] at kS
   have kE := ok_l12rest hl hbl 0 0 ws ws2 (by omega) hrest
   have hus3 : usedL l (wordF ws) = usedL l (wordF ws2) := hus2.symm
   have wb : (((m : Int)) != ((m : Int))) = false := by simp
   have F13 := And.intro F1 (And.intro @hid1 (And.intro @d0 (And.intro @d1 (And.intro @a0 (And.intro @a1 (And.intro @w2 (And.intro @w3 (And.intro @w4 (And.intro @w5 (And.intro @hB0 (And.intro @hx1 (And.intro @hg @wb))))))))))))
   refine eS fun _ hn108 _ _ => ?_;refine eS fun _ hn109 _ _ => ?_;refine eO fun _ hk110 => ?_;refine tS 3 F13 ?_;refine tZ F13 ?_;refine hk110 _ ?_;refine hn109 (some ([1,5,6,7,8,30],none)) _ ?_;refine eCt ?_;refine hn108 (some ([1,5,6,7,8],none)) _ ?_;refine eS fun _ hn111 _ _ => ?_;refine eB fun _ hn112 _ _ _ => ?_;refine eS fun _ hn113 _ _ => ?_;refine eD [] (n := 8) fun _ hk114 => ?_;refine sq0 ?_;refine fC 3 F13 ?_;refine fC 2 F13 ?_;refine fZ F13 ?_;refine hk114 _ ?_;refine sr0 ?_;refine tC 1 F13 ?_;refine tL F13 ?_;refine hn113 (some ([1,5,6,7,8,9],none)) _ ?_;refine eS fun _ hn116 _ _ => ?_;refine eO fun _ hk117 => ?_;refine tC 3 F13 ?_;refine tS 1 F13 ?_;refine tS 1 F13 ?_;refine Or.inl (Or.inl ⟨_,kR,?_⟩);refine tL F13 ?_;refine hk117 _ ?_;refine hn116 (some ([1,5,6,7,8,9,10,11],none)) _ ?_;refine eS fun _ hn118 _ _ => ?_;refine eO fun _ hk119 => ?_;refine tL F13 ?_;refine hk119 _ ?_
   refine hn118 (some ([1,5,6,7,8,9,10,11,12],none)) _ ?_;refine eS fun _ hn120 _ _ => ?_;refine eO fun _ hk121 => ?_;refine tC 1 F13 ?_;refine tS 1 F13 ?_;refine tS 1 F13 ?_;refine Or.inr (evCallO_mk (kT _ _) (sgE1 F13) (fun Jo4 ro4 Oo4 no4 hPo4 => ?_))
   obtain ⟨L1,rfl,p1,p2,p3,p4⟩ := hPo4
   have p2 : ArF none O1 n1 Oo4 no4 := p2
   have p3 : n1 < L1.i := p3
   have p4 : n1 < L1.g := p4
   have pm : MkP (.tk (takeM l m)) O1 n1 L1 (delA Oo4 n1) no4 := MkP.of p1 p2 p3 p4
   have pl1 := pm.fr.le
   have f0 : getA Oo4 n = some (.gh J) := by rw [p2.old n (by show n < n1; omega) (by simp)]; exact a0
   have f1 : getA Oo4 (n + 1) = some (.box 25 (eLay l)) := by rw [p2.old (n + 1) (by show n + 1 < n1; omega) (by simp)]; exact a1
   have hid4 := oid no4
   have e40 := odl (n := no4) (d := n) (by omega)
   have e41 := odl (n := no4) (d := n + 1) (by omega)
   have z0 : getA (delA Oo4 n1) n = some (.gh J) := by rw [getA_delO,if_neg (by omega)]; exact f0
   have z1 : getA (delA Oo4 n1) (n + 1) = some (.box 25 (eLay l)) := by rw [getA_delO,if_neg (by omega)]; exact f1
   have hpx := plainF (plain_eAr (.tk (takeM l m)) L1)
   have F14 := And.intro F13 (And.intro @hid4 (And.intro @e40 (And.intro @e41 (And.intro @f0 (And.intro @f1 @hpx)))))
   refine tS 3 F14 ?_;refine tL F14 ?_;refine hk121 _ ?_;refine hn120 (some ([1,5,6,7,8,9,10,11,12,13,14],none)) _ ?_;refine eS fun _ hn122 _ _ => ?_;refine eS fun _ hn123 _ _ => ?_;refine eO fun _ hk124 => ?_;refine tC 3 F14 ?_;refine tZ F14 ?_;refine hk124 _ ?_;refine hn123 (some ([1,5,6,7,8,9,10,11,12,13,14,58],none)) _ ?_;refine eCt ?_;refine eS fun _ hn125 _ _ => ?_;refine eO fun _ hk126 => ?_;refine tC 1 F14 ?_;refine tS 1 F14 ?_;refine tS 1 F14 ?_;refine Or.inr (evCallO_mk (kG _ _) (sgE1 F14) (fun Jo5 ro5 Oo5 no5 hPo5 => ?_))
   obtain ⟨L2,rfl,r1,r2,r3,r4⟩ := hPo5
   have r2 : ArF none (delA Oo4 n1) no4 Oo5 no5 := r2
   have r3 : no4 < L2.i := r3
   have r4 : no4 < L2.g := r4
   have rm : MkP (.gv (giveA l m)) (delA Oo4 n1) no4 L2 (delA Oo5 no4) no5 := MkP.of r1 r2 r3 r4
   have rl1 := rm.fr.le
   have g0 : getA Oo5 n = some (.gh J) := by rw [r2.old n (by show n < no4; omega) (by simp)]; exact z0
   have g1 : getA Oo5 (n + 1) = some (.box 25 (eLay l)) := by rw [r2.old (n + 1) (by show n + 1 < no4; omega) (by simp)]; exact z1
   have hid5 := oid no5
   have e50 := odl (n := no5) (d := n) (by omega)
   have e51 := odl (n := no5) (d := n + 1) (by omega)
   have z5 : getA (delA Oo5 no4) n = some (.gh J) := by rw [getA_delO,if_neg (by omega)]; exact g0
   have z6 : getA (delA Oo5 no4) (n + 1) = some (.box 25 (eLay l)) := by rw [getA_delO,if_neg (by omega)]; exact g1
   have hpy := plainF (plain_eAr (.gv (giveA l m)) L2)
   have kO := okO_l12one hl 0 ws (by rw [hlen,hN]; exact Int.le_refl _) (by omega) (.gv (giveA l m)) (⟨hl,hm⟩ : GvOk (giveA l m)) rfl (by rw [hX]; exact hXl) (delA Oo5 no4) no5 rm.own
   rw [hX,hXb.1,hXb.2,hlen,ews2] at kO
   have F15 := And.intro F14 (And.intro @hid5 (And.intro @e50 (And.intro @e51 (And.intro @g0 (And.intro @g1 @hpy)))))
   refine tS 3 F15 ?_;refine tL F15 ?_;refine hk126 _ ?_;refine hn125 (some ([1,5,6,7,8,9,11,13,14],none)) _ ?_;refine eS fun _ hn127 _ _ => ?_;refine eO fun _ hk128 => ?_;refine tL F15 ?_;refine hk128 _ ?_;refine hn127 (some ([1,5,6,7,8,9,10,11,13,14],none)) _ ?_;refine eS fun _ hn129 _ _ => ?_;refine eS fun _ hn130 _ _ => ?_;refine eO fun _ hk131 => ?_;refine tS 2 F15 ?_;refine tS 1 F15 ?_;refine Or.inl (Or.inl ⟨_,kI,?_⟩);refine tL F15 ?_;refine hk131 _ ?_;refine hn130 (some ([1,5,6,7,8,9,10,11,13,14,69],none)) _ ?_;refine eCt ?_;refine eO fun _ hk132 => ?_;refine tL F15 ?_;refine hk132 _ ?_;refine hn129 (some ([1,5,6,7,8,9,10,11,13,14],none)) _ ?_;refine eO fun _ hk133 => ?_;refine tS 2 F15 ?_;refine tS 1 F15 ?_;refine Or.inl (Or.inl ⟨_,kW,?_⟩);refine tL F15 ?_;refine hk133 _ ?_;refine hn122 (some ([1,5,6,8,10,11,12,13,14],none)) _ ?_;refine eS fun _ hn134 _ _ => ?_;refine eO fun _ hk135 => ?_
   refine tC 1 F15 ?_;refine tS 2 F15 ?_;refine tS 1 F15 ?_;refine Or.inr (evCallO_mk (kO) (sgE1 F15) (fun Jo9 ro9 Oo9 no9 hPo9 => ?_))
   obtain ⟨rfl,hle9,hfr9⟩ := hPo9
   have f90 : getA Oo9 n = some (.gh J) := by rw [hfr9 n (by show n < no5; omega) (by simp; omega)]; exact z5
   have f91 : getA Oo9 (n + 1) = some (.box 25 (eLay l)) := by rw [hfr9 (n + 1) (by show n + 1 < no5; omega) (by simp; omega)]; exact z6
   have hle9 : no5 ≤ no9 := hle9
   have hid9 := oid no9
   have e90 := odl (n := no9) (d := n) (by omega)
   have e91 := odl (n := no9) (d := n + 1) (by omega)
   have F16 := And.intro F15 (And.intro @hid9 (And.intro @e90 (And.intro @e91 (And.intro @f90 (And.intro @f91 @hus3)))))
   refine tS 3 F16 ?_;refine tS 3 F16 ?_;refine tL F16 ?_;refine hk135 _ ?_;refine hn134 (some ([1,5,6,8,10,11,12,14,15,16,17,18],none)) _ ?_;refine eS fun _ hn136 _ _ => ?_;refine eS fun _ hn137 _ _ => ?_;refine eO fun _ hk138 => ?_;refine tC 2 F16 ?_;refine tS 3 F16 ?_;refine tS 3 F16 ?_;refine tC 2 F16 ?_;refine tS 3 F16 ?_;refine tC 2 F16 ?_;refine tC 3 F16 ?_;refine tS 1 F16 ?_;refine tS 1 F16 ?_;refine Or.inl (Or.inl ⟨_,kU,?_⟩);refine tS 1 F16 ?_;refine tS 1 F16 ?_;refine Or.inl (Or.inl ⟨_,kS,?_⟩);refine tS 3 F16 ?_;refine tC 1 F16 ?_;refine tS 2 F16 ?_;refine tS 1 F16 ?_;refine Or.inl (Or.inl ⟨_,kE,?_⟩);refine tL F16 ?_;refine hk138 _ ?_;refine hn137 (some ([1,5,8,12,15,117],none)) _ ?_;refine eCf ?_;refine hn136 (some ([1,5,8,12,15],none)) _ ?_;refine eO fun _ hk139 => ?_;refine tS 3 F16 ?_;refine tL F16 ?_;refine hk139 _ ?_;refine hn112 _ ?_;refine hn111 (some ([1,5,6,7,8],none)) _ ?_
   refine eO fun _ hk140 => ?_;refine tC 2 F16 ?_;refine tL F16 ?_;refine hk140 _ ?_;refine hn16 (xs.length - (i + 1)) (some ([1,5,6,7,8],none)) _ ?_ ?_
   all_goals try refine lp0 ?_
   ·omega
   ·refine ⟨i + 1,ws2,_,_,by omega,by omega,hlen2,by omega,?_,?_,rfl⟩
    ·simp only [getA,getA_delO]; (repeat rw [if_neg (by omega)]); exact f90
    ·simp only [getA,getA_delO]; (repeat rw [if_neg (by omega)]); exact f91
theorem ok_ArenaAlone {b : Int} (hb : 0 ≤ b ∧ b ≤ 255) (xs : List OpV) (hxs : ∀ x ∈ xs,0 ≤ x.n ∧ x.n ≤ 255) : Ok 3 [.v (.int .u8 b),.sl 2 2 (xs.map eOp)] (sB true) := ok_of_okO (okO_ArenaAlone hb xs hxs [] 0) rfl
end Go.Proofs.YtkmbcjnaaokilaaGreatDoor
