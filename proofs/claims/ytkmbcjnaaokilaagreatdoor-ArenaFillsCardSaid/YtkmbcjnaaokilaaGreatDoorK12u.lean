/-
  ArenaFills by shadows.
-/
import Derived.Test.YtkmbcjnaaokilaaGreatDoorK12t
import Derived.Test.YtkmbcjnaaokilaaGreatDoorScArenaFills
namespace Go.Proofs.YtkmbcjnaaokilaaGreatDoor
set_option linter.unusedSimpArgs false
set_option linter.unusedVariables false
open Go.RowKit Go.Maps
theorem withG_len_not : ∀ (a : List Nat) (b : Nat),b ∉ a → (withG a b false).length = a.length + 1
 | [],_,_ => rfl
 | x :: xs,b,h => by
  have h1 : b ≠ x := fun e => h (by simp [e])
  have h2 : b ∉ xs := fun e => h (by simp [e])
  unfold withG
  by_cases c : b < x
  ·simp [c,Nat.le_of_lt c,withG_put]
  ·simp [c,show ¬ b ≤ x by omega,withG_len_not xs b h2]
theorem takeU_free {U : Nat → Bool} {B a b : Nat} (h : takeU U B a = some b) : U b = false := by
 unfold takeU at h
 split at h
 ·rename_i h1
  have := (freeU_some h1).2.2.1
  cases h; exact this
 ·exact (freeU_some h).2.2.1
theorem takeU_all {U : Nat → Bool} {B a : Nat} (ha : a ≤ B) (h : takeU U B a = none) : ∀ c,c < B → U c = true := by
 unfold takeU at h
 split at h
 ·cases h
 ·rename_i h1
  intro c hc
  by_cases e : c < a
  ·exact freeU_none h c (by omega) (by omega)
  ·exact freeU_none h1 c (by omega) (by omega)
theorem filter_full {U : Nat → Bool} {B : Nat} : ((List.range B).filter U).length = B ↔ ∀ c,c < B → U c = true := by
 have h := List.length_filter_eq_length_iff (p := U) (l := List.range B)
 rw [List.length_range] at h
 exact h.trans ⟨fun h c hc => h c (List.mem_range.2 hc),fun h c hc => h c (List.mem_range.1 hc)⟩
inductive FlStep (l : LayV) (ws : List WordV) (m : Nat) : Prop
 | t (h0 : (usedL l (wordF ws)).length ≠ l.blocks.toNat) (b : Nat) (hb : b < l.blocks.toNat) (h1 : usedF l (wordF ws) b = false) (X : Sol) (hX : soloA 100 (sol0 (.tk (takeM l m)) (wordF ws)) = X) (hXl : X.live = false) (hXb : blockA X.s = ((b : Int),0,true) ∧ X.f = setB l (wordF ws) b)
 | z (h0 : (usedL l (wordF ws)).length = l.blocks.toNat) (X : Sol) (hX : soloA 100 (sol0 (.tk (takeM l m)) (wordF ws)) = X) (hXl : X.live = false) (hXb : blockA X.s = (0,9,true) ∧ X.f = wordF ws)
theorem fl_step {l : LayV} (hl : checkL l = 0) (ws : List WordV) {m : Nat} (hm : (m : Int) < l.blocks) : FlStep l ws m := by
 obtain ⟨X,hX,hXl,hXc⟩ := solo_take hl hm (wordF ws)
 rcases hXc with ⟨b,h1,h2,h3⟩ | ⟨h1,h2,h3⟩
 ·refine .t (fun h => ?_) b (takeU_lt (by omega) h1) (takeU_free h1) X hX hXl ⟨h2,h3⟩
  have := filter_full.1 h b (takeU_lt (by omega) h1)
  rw [takeU_free h1] at this; cases this
 ·exact .z (filter_full.2 (takeU_all (by omega) h1)) X hX hXl ⟨h2,h3⟩
def FlInv (J : Hp → Env → Prop) (n : Nat) (l : LayV) (r : Int) (N F : Nat) (k : Nat) (S : St) : Prop :=
 ∃ (i : Nat) (ws : List WordV) (O1 : List (Nat × Ob)) (n1 : Nat),i ≤ F + 1 ∧ k = F + 1 - i ∧ ws.length = N ∧ (usedL l (wordF ws)).length + (F - i) = l.blocks.toNat ∧ n + 2 ≤ n1 ∧ getA O1 n = some (.gh J) ∧ getA O1 (n + 1) = some (.box 25 (eLay l)) ∧
  S = ⟨[(2,.v (.int .u8 r)),(7,.ptr (n + 1) 0 0),(8,.sl 3 0 (ws.map eWord)),(10,.sl 1 0 ((usedL l (wordF ws)).map eU)),(11,sI F),(12,sI i)],O1,n1⟩
abbrev flBl (n : Nat) (l : LayV) (r : Int) (ws : List WordV) (F : Nat) (i : Int) : List (Nat × Sh) := [(2,.v (.int .u8 r)),(7,.ptr (n + 1) 0 0),(8,.sl 3 0 (ws.map eWord)),(10,.sl 1 0 ((usedL l (wordF ws)).map eU)),(11,sI F),(12,sI i)]
abbrev flV (n : Nat) (l : LayV) (r m : Int) : List (Nat × (Nat × Sh)) := [(50,0,.agg (eLay l)),(51,1,.v (.int .u8 r)),(52,2,sI r),(53,3,.ptr (n + 1) 0 2),(54,4,sI l.blocks),(55,5,sI m)]
abbrev flW (s : ArM) (x : ArL) : List (Nat × (Nat × Sh)) := [(56,6,.tup [eAr s x,sI 0]),(49,7,.tup [eAr s x,sI 0]),(57,8,eAr s x),(58,9,sI 0),(13,10,eAr s x),(14,11,sI 0)]
abbrev flWt : List (List Nat) := [[],[],[1],[],[3],[2,4],[0,5],[6],[7],[7],[8,6,0,1,2,3,4,5,6,7,8],[9,10,0,1,2,3,4,5,6,7,8,9,10]]
set_option maxHeartbeats 8000000 in
set_option maxRecDepth 20000 in
theorem okO_ArenaFills {b : Int} (hb : 0 ≤ b ∧ b ≤ 255) (xs : List Int) {r : Int} (hr : 0 ≤ r ∧ r ≤ 255) (O : List (Nat × Ob)) (n : Nat) : OkO 7 [.v (.int .u8 b),.sl 1 2 (xs.map eZ),.v (.int .u8 r)] O n (fun _ r _ _ => r = sB true) := by
 refine okO_of_trC Tryz.func7 tr_ArenaFillsO rfl fun J => ?_
 have hid := oid n
 by_cases hlong : (64 : Int) < (xs.length : Int)
 ·skip
  unfold sc_ArenaFillsO rv_ArenaFillsO
  have F1 := And.intro @hid @hlong
  refine eS fun K1 hn1 hr1 he1 => ?_;refine eO fun K2 hk2 => ?_;refine tL F1 ?_;refine hk2 _ ?_;refine hn1 (some ([0,1,2],none)) _ ?_;refine eS fun K3 hn3 hr3 he3 => ?_;refine eS fun K4 hn4 hr4 he4 => ?_;refine eO fun K5 hk5 => ?_;refine tZ F1 ?_;refine hk5 _ ?_;refine hn4 (some ([0,1,2,21],none)) _ ?_;refine eCt ?_;refine eS fun K6 hn6 hr6 he6 => ?_;refine eO fun K7 hk7 => ?_;refine tS 1 F1 ?_;refine Or.inl (Or.inl ⟨_,ok_l12awake,?_⟩);refine tL F1 ?_;refine hk7 _ ?_;refine hn6 (some ([6],none)) _ ?_;refine hr3 _ ?_
  first | refine finO_ret (sgE1 F1) (sgE1 F1) (sgE1 F1) ?_ | refine finO_next (sgE1 F1) (sgE1 F1) (sgE1 F1) ?_
  try dsimp only
  rfl
 have kp := ok_l12plan (t := 0) (b := b) ⟨by omega,by omega⟩ hb
 have hl := planA_ok (t := 0) (b := b) (by omega) hb.1
 have hsz := plan_size hb.1
 have hbl : 1 ≤ (planA 0 b).blocks := by show 1 ≤ 1 + b % 64; omega
 have hbl2 : (planA 0 b).blocks ≤ 64 := by show 1 + b % 64 ≤ 64; omega
 generalize planA 0 b = l at kp hl hsz hbl hbl2
 have kF := ok_layFirst l hl
 have hN : ((firstM l).length : Int) = fromL l 7 := by
  have h0 := (from_le (checkL_zero hl).1 7).1
  rw [firstM_len]; omega
 generalize firstM l = ws0 at kF hN
 by_cases hbad : xs.any (badU l) = true
 ·have kM := ok_arMark_range hl 0 2 ws0 xs (by omega) (by omega) hbad
  unfold sc_ArenaFillsO rv_ArenaFillsO
  have F1 := And.intro @hid @hlong
  refine eS fun K1 hn1 hr1 he1 => ?_;refine eO fun K2 hk2 => ?_;refine tL F1 ?_;refine hk2 _ ?_;refine hn1 (some ([0,1,2],none)) _ ?_;refine eS fun K3 hn3 hr3 he3 => ?_;refine eS fun K4 hn4 hr4 he4 => ?_;refine eO fun K5 hk5 => ?_;refine tZ F1 ?_;refine hk5 _ ?_;refine hn4 (some ([0,1,2,21],none)) _ ?_;refine eCf ?_;refine hn3 (some ([0,1,2],none)) _ ?_;refine eS fun K6 hn6 hr6 he6 => ?_;refine eO fun K7 hk7 => ?_;refine tS 1 F1 ?_;refine tS 1 F1 ?_;refine Or.inl (Or.inl ⟨_,kp,?_⟩);refine tZ F1 ?_;refine hk7 _ ?_;refine hn6 (some ([1,2,7],none)) _ ?_;refine eS fun K8 hn8 hr8 he8 => ?_;refine eD [] (n := 8) fun K9 hk9 => ?_;refine sq0 ?_;refine fC 1 F1 ?_;refine fC 1 F1 ?_;refine fS 1 F1 ?_;refine ⟨_,kF,?_⟩;refine fS 1 F1 ?_;refine fS 1 F1 ?_;refine ⟨_,kM,?_⟩;refine fL F1 ?_;refine hk9 _ ?_;refine sr0 ?_;refine tL F1 ?_;refine hn8 (some ([2,7,8,9],none)) _ ?_;refine eS fun K11 hn11 hr11 he11 => ?_
  refine eS fun K12 hn12 hr12 he12 => ?_;refine eO fun K13 hk13 => ?_;refine tZ F1 ?_;refine hk13 _ ?_;refine hn12 (some ([2,7,8,34],none)) _ ?_;refine eCt ?_;refine eS fun K14 hn14 hr14 he14 => ?_;refine eO fun K15 hk15 => ?_;refine tS 1 F1 ?_;refine Or.inl (Or.inl ⟨_,ok_l12awake,?_⟩);refine tL F1 ?_;refine hk15 _ ?_;refine hn14 (some ([6],none)) _ ?_;refine hr11 _ ?_
  first | refine finO_ret (sgE1 F1) (sgE1 F1) (sgE1 F1) ?_ | refine finO_next (sgE1 F1) (sgE1 F1) (sgE1 F1) ?_
  try dsimp only
  rfl
 obtain ⟨us,hus,husl,husb⟩ : ∃ us : List Nat,xs.map eZ = us.map eU ∧ us.length = xs.length ∧ ∀ u ∈ us,u < l.blocks.toNat := by
  refine ⟨xs.map Int.toNat,?_,by simp,fun u hu => ?_⟩
  ·rw [List.map_map]
   refine List.map_congr_left fun x hx => ?_
   have h1 : badU l x = false := by
    cases h : badU l x
    ·rfl
    ·exact absurd (List.any_eq_true.2 ⟨x,hx,h⟩) hbad
   unfold badU at h1
   simp at h1
   show [sI x] = [sI ((x.toNat : Nat) : Int)]
   rw [Int.toNat_of_nonneg h1.1]
  ·obtain ⟨x,hx,rfl⟩ := List.mem_map.1 hu
   have h1 : badU l x = false := by
    cases h : badU l x
    ·rfl
    ·exact absurd (List.any_eq_true.2 ⟨x,hx,h⟩) hbad
   unfold badU at h1
   simp at h1
   omega
 have kM := ok_arMark hl 0 2 ws0 us (by omega) (by omega) (by omega) husb
 have hN1 := markW_len l ws0 us
 rw [← hus] at kM
 generalize markW l ws0 us = w0 at kM hN1
 have kU0 := ok_arUsed hl 0 w0 (by omega)
 have hul0 := usedL_len l (wordF w0)
 obtain ⟨F,hF⟩ : ∃ F : Nat,F = l.blocks.toNat - (usedL l (wordF w0)).length := ⟨_,rfl⟩
 have wF : IntKind.i64.wrap (l.blocks - ((usedL l (wordF w0)).length : Int)) = (F : Int) := by rw [IntKind.wrap_i64]; omega
 generalize hNN : ws0.length = N at hN hN1
 obtain ⟨m,w4,w5,hm⟩ : ∃ m : Nat,IntKind.i64.wrap r = r ∧ r.tmod l.blocks = (m : Int) ∧ (m : Int) < l.blocks := by
  have p0 := Int.emod_nonneg r (show l.blocks ≠ 0 by omega)
  have p1 := Int.emod_lt_of_pos r (show 0 < l.blocks by omega)
  exact ⟨(r % l.blocks).toNat,by rw [IntKind.wrap_i64]; omega,by rw [Int.tmod_eq_emod_of_nonneg hr.1]; omega,by omega⟩
 have hB0 : l.blocks ≠ 0 := by omega
 unfold sc_ArenaFillsO rv_ArenaFillsO
 have F1 := And.intro @hid (And.intro @hlong @wF)
 refine eS fun K1 hn1 hr1 he1 => ?_;refine eO fun K2 hk2 => ?_;refine tL F1 ?_;refine hk2 _ ?_;refine hn1 (some ([0,1,2],none)) _ ?_;refine eS fun K3 hn3 hr3 he3 => ?_;refine eS fun K4 hn4 hr4 he4 => ?_;refine eO fun K5 hk5 => ?_;refine tZ F1 ?_;refine hk5 _ ?_;refine hn4 (some ([0,1,2,21],none)) _ ?_;refine eCf ?_;refine hn3 (some ([0,1,2],none)) _ ?_;refine eS fun K6 hn6 hr6 he6 => ?_;refine eO fun K7 hk7 => ?_;refine tS 1 F1 ?_;refine tS 1 F1 ?_;refine Or.inl (Or.inl ⟨_,kp,?_⟩);refine tZ F1 ?_;refine hk7 _ ?_;refine hn6 (some ([1,2,7],none)) _ ?_;refine eS fun K8 hn8 hr8 he8 => ?_;refine eD [] (n := 8) fun K9 hk9 => ?_;refine sq0 ?_;refine fC 1 F1 ?_;refine fC 1 F1 ?_;refine fS 1 F1 ?_;refine ⟨_,kF,?_⟩;refine fS 1 F1 ?_;refine fS 1 F1 ?_;refine ⟨_,kM,?_⟩;refine fL F1 ?_;refine hk9 _ ?_;refine sr0 ?_;refine tL F1 ?_;refine hn8 (some ([2,7,8,9],none)) _ ?_;refine eS fun K11 hn11 hr11 he11 => ?_
 refine eS fun K12 hn12 hr12 he12 => ?_;refine eO fun K13 hk13 => ?_;refine tZ F1 ?_;refine hk13 _ ?_;refine hn12 (some ([2,7,8,34],none)) _ ?_;refine eCf ?_;refine hn11 (some ([2,7,8],none)) _ ?_;refine eS fun K14 hn14 hr14 he14 => ?_;refine eO fun K15 hk15 => ?_;refine tC 1 F1 ?_;refine tS 1 F1 ?_;refine tS 1 F1 ?_;refine Or.inl (Or.inl ⟨_,kU0,?_⟩);refine tL F1 ?_;refine hk15 _ ?_;refine hn14 (some ([2,7,8,10],none)) _ ?_;refine eS fun _ hn16 _ _ => ?_;refine eO fun _ hk17 => ?_;refine tC 2 F1 ?_;refine tC 3 F1 ?_;refine tL F1 ?_;refine hk17 _ ?_;refine hn16 (some ([2,7,8,10,11],none)) _ ?_;refine eS fun _ hn18 _ _ => ?_;refine eS fun _ hn19 _ _ => ?_;refine eO fun _ hk20 => ?_;refine tL F1 ?_;refine hk20 _ ?_;refine hn19 (some ([2,7,8,10,11,12],none)) _ ?_;refine eB fun _ _ hx21 _ _ => ?_;refine eW (FlInv J n l r N F) (F + 1) (some ([2,7,8,10,11,12],none)) ([]) ?_ ?_
 ·try refine lp0 ?_
  refine ⟨0,w0,(n + 1,.box 25 (eLay l)) :: (n,.gh J) :: delA O (n + 1),n + 2,by omega,by omega,hN1,by omega,by omega,?_,?_,rfl⟩
  ·simp [getA]
  ·simp [getA]
 ·intro k S1 hI
  obtain ⟨i,ws,O1,n1,hi,rfl,hlen,hcnt,hle,a0,a1,rfl⟩ := hI
  have hid1 := oid n1
  have d0 := odl (n := n1) (d := n) (by omega)
  have d1 := odl (n := n1) (d := n + 1) (by omega)
  have w3 : IntKind.i64.wrap ((i : Int) + 1) = ((i + 1 : Nat) : Int) := by rw [IntKind.wrap_i64]; omega
  have hul := usedL_len l (wordF ws)
  have hst : i = F + 1 ∨ (i ≤ F ∧ FlStep l ws m) := by
   rcases Nat.lt_or_ge F i with h | h
   ·exact .inl (by omega)
   ·exact .inr ⟨h,fl_step hl ws hm⟩
  intro _ hn22 _ he22
  rcases hst with hcc | ⟨hcc,⟨h0,b',hb',h1,X,hX,hXl,hXb⟩ | ⟨h0,X,hX,hXl,hXb⟩⟩
  ·skip
   have w2 : ¬ (i : Int) ≤ (F : Int) := by omega
   have wl : ((usedL l (wordF ws)).length : Int) = l.blocks := by omega
   have kU := ok_arUsed hl 0 ws (by rw [hlen,hN]; exact Int.le_refl _)
   have F2 := And.intro F1 (And.intro @hid1 (And.intro @d0 (And.intro @d1 (And.intro @a0 (And.intro @a1 (And.intro @w2 @wl))))))
   refine eS fun _ _ _ he23 => ?_;refine eS fun _ hn24 _ _ => ?_;refine eO fun _ hk25 => ?_;refine tZ F2 ?_;refine hk25 _ ?_;refine hn24 (some ([2,7,8,10,11,12,46],none)) _ ?_;refine eCf ?_;refine he23 0 _ ?_;refine he22 0 _ ?_;refine hx21 _ ?_;refine hn18 (some ([7,8],none)) _ ?_;refine eS fun _ hn26 _ _ => ?_;refine eD [] (n := 6) fun _ hk27 => ?_;refine sq0 ?_;refine fC 1 F2 ?_;refine fS 1 F2 ?_;refine fS 1 F2 ?_;refine ⟨_,kU,?_⟩;refine fZ F2 ?_;refine hk27 _ ?_;refine sr0 ?_;refine tC 1 F2 ?_;refine tS 1 F2 ?_;refine tS 1 F2 ?_;refine Or.inl (Or.inl ⟨_,ok_l12awake,?_⟩);refine tL F2 ?_;refine hn26 (some ([6],none)) _ ?_
   first | refine finO_ret (sgE1 F2) (sgE1 F2) (sgE1 F2) ?_ | refine finO_next (sgE1 F2) (sgE1 F2) (sgE1 F2) ?_
   try dsimp only
   rfl
  ·skip
   have w2 : (i : Int) ≤ (F : Int) := by omega
   have kT := fun O n => ok_arTake hl m hm O n
   have hws2 : ∃ ws2,wordsA N (setB l (wordF ws) b') = ws2 ∧ ws2.length = N ∧ usedL l (wordF ws2) = usedL l (setB l (wordF ws) b') := ⟨_,rfl,wordsA_len _ _,usedL_words hl (by rw [← hN]; exact Int.le_refl _) _⟩
   obtain ⟨ws2,ews2,hlen2,hus2⟩ := hws2
   have hif : i < F := by omega
   have wx : ((i : Int) == (F : Int)) = false := by rw [beq_eq_false_iff_ne]; omega
   have wlt : (i : Int) < (F : Int) := by omega
   have wn : ¬ (b' : Int) < 0 := by omega
   have wn2 : ¬ l.blocks ≤ (b' : Int) := by omega
   have kI := ok_r12Is 0 (usedL l (wordF ws)) b' (by omega)
   rw [usedL_contains _ hb',h1] at kI
   have kW := ok_r12With 0 (usedL l (wordF ws)) b' (by omega)
   have hlw : (usedL l (wordF ws2)).length = (usedL l (wordF ws)).length + 1 := by
    rw [hus2,usedL_set l _ hb']
    refine withG_len_not _ _ fun h => ?_
    have := List.contains_iff_mem.2 h
    rw [usedL_contains _ hb',h1] at this; cases this
   rw [← usedL_set l (wordF ws) hb',← hus2] at kW
   have F3 := And.intro F1 (And.intro @hid1 (And.intro @d0 (And.intro @d1 (And.intro @a0 (And.intro @a1 (And.intro @w2 (And.intro @w3 (And.intro @wx (And.intro @wlt (And.intro @wn @wn2))))))))))
   refine eS fun _ hn29 _ _ => ?_;refine eS fun _ hn30 _ _ => ?_;refine eO fun _ hk31 => ?_;refine tZ F3 ?_;refine hk31 _ ?_;refine hn30 (some ([2,7,8,10,11,12,46],none)) _ ?_;refine eCt ?_;refine hn29 (some ([2,7,8,10,11,12],none)) _ ?_;refine eS fun _ hn32 _ _ => ?_;refine eB fun _ hn33 _ _ _ => ?_;refine eS fun _ hn34 _ _ => ?_;refine eCflP ([]) (fun done S => Closed flWt done ∧ ∃ x,RgC (flBl n l r ws F i) (fun x => flV n l r m ++ flW (.tk (takeM l m)) x) [7,8,9,10,11] 6 O1 n1 (MkP (.tk (takeM l m)) O1 n1) done S x) (fun S => ∃ x O9 n9,S = ⟨[(2,.v (.int .u8 r)),(7,.ptr (n + 1) 0 0),(8,.sl 3 0 (ws.map eWord)),(10,.sl 1 0 ((usedL l (wordF ws)).map eU)),(11,sI F),(12,sI i),(13,eAr (.tk (takeM l m)) x),(14,sI 0)],O9,n9⟩ ∧ MkP (.tk (takeM l m)) O1 n1 x O9 n9) ?_ ?_ ?_ ?_
   ·skip
    refine ⟨closed_nil _,⟨0,0,0,.any⟩,RgC.init (fun t v h => ?_) rfl rfl⟩
    simp only [getA] at h
    simp only [St.casts,St.keep,keepT,getA,reduceIte,Nat.reduceEqDiff]
    repeat' split at h
    all_goals first | (rename_i e9; subst e9; exact h) | cases h
   ·skip
    intro done S i0 ⟨hc,x,hI⟩ hr
    have hi9 := rdyN_lt hr
    have hnr := rdyN_not hr
    have b2 := hI.base 2 _ rfl
    have b7 := hI.base 7 _ rfl
    have mL := mk_memA hI (e := n + 1) (by omega) a1
    have hgot := fun t j v h h2 => hI.got t j v h h2
    have hpx := fun x => plainF (plain_eAr (.tk (takeM l m)) x)
    have hcase : i0 = 0 ∨ i0 = 1 ∨ i0 = 2 ∨ i0 = 3 ∨ i0 = 4 ∨ i0 = 5 ∨ i0 = 6 ∨ i0 = 7 ∨ i0 = 8 ∨ i0 = 9 ∨ i0 = 10 ∨ i0 = 11 := by simp at hi9; omega
    rcases hcase with rfl | rfl | rfl | rfl | rfl | rfl | rfl | rfl | rfl | rfl | rfl | rfl
    ·skip
     have F9 := And.intro b7 mL
     refine cfOpN rfl fun K9 hk9 => ?_;refine sh1 F9 ?_;refine sd ?_;refine hk9 _ ?_
     exact ⟨hc.cons hr,x,hI.put (i := 0) (t := 50) rfl rfl rfl (by decide) (fun h => by cases h)⟩
    ·skip
     have F9 := b2
     refine cfOpN rfl fun K9 hk9 => ?_;refine sh1 F9 ?_;refine hk9 _ ?_
     exact ⟨hc.cons hr,x,hI.put (i := 1) (t := 51) rfl rfl rfl (by decide) (fun h => by cases h)⟩
    ·skip
     have hw := rdyN_wait hr rfl
     have g1 := hgot 51 1 _ rfl (hw 1 rfl)
     have F9 := And.intro g1 w4
     refine cfOpN rfl fun K9 hk9 => ?_;refine sh1 F9 ?_;refine hk9 _ ?_
     exact ⟨hc.cons hr,x,hI.put (i := 2) (t := 52) rfl rfl rfl (by decide) (fun h => by cases h)⟩
    ·skip
     have F9 := And.intro b7 mL
     refine cfOpN rfl fun K9 hk9 => ?_;refine sh1 F9 ?_;refine hk9 _ ?_
     exact ⟨hc.cons hr,x,hI.put (i := 3) (t := 53) rfl rfl rfl (by decide) (fun h => by cases h)⟩
    ·skip
     have hw := rdyN_wait hr rfl
     have g1 := hgot 53 3 _ rfl (hw 3 rfl)
     have F9 := And.intro g1 mL
     refine cfOpN rfl fun K9 hk9 => ?_;refine sh1 F9 ?_;refine sd ?_;refine hk9 _ ?_
     exact ⟨hc.cons hr,x,hI.put (i := 4) (t := 54) rfl rfl rfl (by decide) (fun h => by cases h)⟩
    ·skip
     have hw := rdyN_wait hr rfl
     have g1 := hgot 52 2 _ rfl (hw 2 rfl)
     have g2 := hgot 54 4 _ rfl (hw 4 rfl)
     have F9 := And.intro g1 (And.intro g2 (And.intro w5 hB0))
     refine cfOpN rfl fun K9 hk9 => ?_;refine sh1 F9 ?_;refine sd ?_;refine hk9 _ ?_
     exact ⟨hc.cons hr,x,hI.put (i := 5) (t := 55) rfl rfl rfl (by decide) (fun h => by cases h)⟩
    ·have hw := rdyN_wait hr rfl
     have g1 := hgot 50 0 _ rfl (hw 0 rfl)
     have g2 := hgot 55 5 _ rfl (hw 5 rfl)
     obtain ⟨T9,O9,n9⟩ := S
     obtain ⟨e1,e2⟩ := hI.pre hnr
     dsimp only at e1 e2
     subst e1 e2
     dsimp only at g1 g2
     refine cfOpN rfl fun K9 hk9 => ?_;refine Or.inr (evCallO_mk (kT _ _) (by simp only [St.opdL,St.opd,g1,g2,St.res,Option.map_some,Option.bind_some]) fun J9 r9 O8 n8 hP9 => ?_)
     obtain ⟨x9,rfl,q1,q2,q3,q4⟩ := hP9
     refine hk9 _ ?_
     exact ⟨hc.cons hr,x9,hI.call2 (t := 56) hnr rfl rfl rfl rfl (MkP.of q1 q2 q3 q4)⟩
    ·skip
     have hw := rdyN_wait hr rfl
     have g1 := hgot 56 6 _ rfl (hw 6 rfl)
     have F9 := g1
     refine cfOpN rfl fun K9 hk9 => ?_;refine sh1 F9 ?_;refine hk9 _ ?_
     exact ⟨hc.cons hr,x,hI.put (i := 7) (t := 49) rfl rfl rfl (by decide) (fun _ => hw 6 rfl)⟩
    ·skip
     have hw := rdyN_wait hr rfl
     have h6 := hc 7 _ (hw 7 rfl) rfl 6 rfl
     have g1 := hgot 49 7 _ rfl (hw 7 rfl)
     have F9 := And.intro g1 (hpx x)
     refine cfOpN rfl fun K9 hk9 => ?_;refine sh1 F9 ?_;refine hk9 _ ?_
     exact ⟨hc.cons hr,x,hI.put (i := 8) (t := 57) rfl rfl rfl (by decide) (fun _ => h6)⟩
    ·skip
     have hw := rdyN_wait hr rfl
     have h6 := hc 7 _ (hw 7 rfl) rfl 6 rfl
     have g1 := hgot 49 7 _ rfl (hw 7 rfl)
     have F9 := And.intro g1 (hpx x)
     refine cfOpN rfl fun K9 hk9 => ?_;refine sh1 F9 ?_;refine hk9 _ ?_
     exact ⟨hc.cons hr,x,hI.put (i := 9) (t := 58) rfl rfl rfl (by decide) (fun _ => h6)⟩
    ·skip
     have hw := rdyN_wait hr rfl
     have g1 := hgot 57 8 _ rfl (hw 8 rfl)
     have F9 := And.intro g1 (hpx x)
     refine cfOpN rfl fun K9 hk9 => ?_;refine sh1 F9 ?_;refine hk9 _ ?_
     exact ⟨hc.cons hr,x,hI.put (i := 10) (t := 13) rfl rfl rfl (by decide) (fun _ => hw 6 rfl)⟩
    ·skip
     have hw := rdyN_wait hr rfl
     have g1 := hgot 58 9 _ rfl (hw 9 rfl)
     have F9 := g1
     refine cfOpN rfl fun K9 hk9 => ?_;refine sh1 F9 ?_;refine hk9 _ ?_
     exact ⟨hc.cons hr,x,hI.put (i := 11) (t := 14) rfl rfl rfl (by decide) (fun _ => hw 6 rfl)⟩
   ·skip
    rintro done S ⟨hc,x,hI⟩ hall
    have t2 := hI.base 2 _ rfl
    have t7 := hI.base 7 _ rfl
    have t8 := hI.base 8 _ rfl
    have t10 := hI.base 10 _ rfl
    have t11 := hI.base 11 _ rfl
    have t12 := hI.base 12 _ rfl
    have t13 := hI.got 13 10 _ rfl (hall 10 (by decide))
    have t14 := hI.got 14 11 _ rfl (hall 11 (by decide))
    obtain ⟨u1,u2,u3⟩ := hI.post (hall 6 (by decide))
    have hs9 : ∀ e,getA (srtO S.O) e = getA S.O e := fun e => getA_srtO _ _
    refine ⟨some ([2,7,8,10,11,12,13,14],none),x,srtO S.O,S.n,?_,⟨ArO.to u1 (Nat.le_refl _) (hs9 _) (hs9 _),⟨u2.le,fun e he hx => (hs9 e).trans (u2.old e he hx)⟩,u3⟩⟩
    show St.mk (keepT S.T [2,7,8,10,11,12,13,14]) _ _ = _
    simp only [St.keep,keepT,t2,t7,t8,t10,t11,t12,t13,t14]
   rintro S1 ⟨x,O2,n2,rfl,p1,p2,p3⟩
   have hle2 := p2.le
   have a0q : getA O2 n = some (.gh J) := by rw [p2.old n (by omega) (by simp)]; exact a0
   have a1q : getA O2 (n + 1) = some (.box 25 (eLay l)) := by rw [p2.old (n + 1) (by omega) (by simp)]; exact a1
   have hpx := plainF (plain_eAr (.tk (takeM l m)) x)
   have hid2 := oid n2
   have c0 := odl (n := n2) (d := n) (by omega)
   have c1 := odl (n := n2) (d := n + 1) (by omega)
   have kO := okO_l12one hl 0 ws (by rw [hlen,hN]; exact Int.le_refl _) (by omega) (.tk (takeM l m)) (takeOk hl hm) rfl (by rw [hX]; exact hXl) O2 n2 p1
   rw [hX,hXb.1,hXb.2,hlen,ews2] at kO
   have F4 := And.intro F3 (And.intro @hpx (And.intro @hid2 (And.intro @c0 (And.intro @c1 (And.intro @a0q @a1q)))))
   refine hn34 (some ([2,7,8,10,11,12,13,14],none)) _ ?_;refine eS fun _ hn35 _ _ => ?_;refine eO fun _ hk36 => ?_;refine tC 1 F4 ?_;refine tS 2 F4 ?_;refine tS 1 F4 ?_;refine Or.inr (evCallO_mk (kO) (sgE1 F4) (fun Jo7 ro7 Oo7 no7 hPo7 => ?_))
   obtain ⟨rfl,hle9,hfr9⟩ := hPo7
   have f0 : getA Oo7 n = some (.gh J) := by rw [hfr9 n (by omega) (by simp; omega)]; exact a0q
   have f1 : getA Oo7 (n + 1) = some (.box 25 (eLay l)) := by rw [hfr9 (n + 1) (by omega) (by simp; omega)]; exact a1q
   have hid9 := oid no7
   have e0 := odl (n := no7) (d := n) (by omega)
   have e1 := odl (n := no7) (d := n + 1) (by omega)
   have F5 := And.intro F4 (And.intro @hid9 (And.intro @e0 (And.intro @e1 (And.intro @f0 @f1))))
   refine tS 3 F5 ?_;refine tS 3 F5 ?_;refine tL F5 ?_;refine hk36 _ ?_;refine hn35 (some ([2,7,10,11,12,14,15,16,17,18],none)) _ ?_;refine eS fun _ hn37 _ _ => ?_;refine eS fun _ hn38 _ _ => ?_;refine eO fun _ hk39 => ?_;refine tC 2 F5 ?_;refine tS 3 F5 ?_;refine tS 3 F5 ?_;refine tC 1 F5 ?_;refine tC 3 F5 ?_;refine tS 1 F5 ?_;refine Or.inl ⟨_,eqsh_bool _ _,?_⟩;refine tL F5 ?_;refine hk39 _ ?_;refine hn38 (some ([2,7,10,11,12,15,16,17,81],none)) _ ?_;refine eCf ?_;refine hn37 (some ([2,7,10,11,12,15,16,17],none)) _ ?_;refine eS fun _ hn40 _ _ => ?_;refine eS fun _ hn41 _ _ => ?_;refine eO fun _ hk42 => ?_;refine tZ F5 ?_;refine hk42 _ ?_;refine hn41 (some ([2,7,10,11,12,15,16,17,84],none)) _ ?_;refine eCt ?_;refine eS fun _ hn43 _ _ => ?_;refine eS fun _ hn44 _ _ => ?_;refine eO fun _ hk45 => ?_;refine tC 2 F5 ?_;refine tS 3 F5 ?_;refine tS 1 F5 ?_;refine Or.inl (Or.inl ⟨_,kI,?_⟩)
   refine tS 3 F5 ?_;refine tC 1 F5 ?_;refine tS 3 F5 ?_;refine tC 2 F5 ?_;refine tC 1 F5 ?_;refine tL F5 ?_;refine hk45 _ ?_;refine hn44 (some ([2,7,10,11,12,15,16,101],none)) _ ?_;refine eCf ?_;refine hn43 (some ([2,7,10,11,12,15,16],none)) _ ?_;refine eO fun _ hk46 => ?_;refine tS 2 F5 ?_;refine tS 1 F5 ?_;refine Or.inl (Or.inl ⟨_,kW,?_⟩);refine tL F5 ?_;refine hk46 _ ?_;refine hn40 (some ([2,7,10,11,12,15],none)) _ ?_;refine eO fun _ hk47 => ?_;refine tL F5 ?_;refine hk47 _ ?_;refine hn33 _ ?_;refine hn32 (some ([2,7,8,10,11,12],none)) _ ?_;refine eO fun _ hk48 => ?_;refine tC 2 F5 ?_;refine tL F5 ?_;refine hk48 _ ?_;refine hn22 (F + 1 - (i + 1)) (some ([2,7,8,10,11,12],none)) _ ?_ ?_
   all_goals try refine lp0 ?_
   ·omega
   ·refine ⟨i + 1,ws2,_,_,by omega,by omega,hlen2,by omega,by omega,?_,?_,rfl⟩
    ·simp only [getA,getA_delO]; (repeat rw [if_neg (by omega)]); exact f0
    ·simp only [getA,getA_delO]; (repeat rw [if_neg (by omega)]); exact f1
  ·skip
   have w2 : (i : Int) ≤ (F : Int) := by omega
   have kT := fun O n => ok_arTake hl m hm O n
   have hws2 : ∃ ws2,wordsA N (wordF ws) = ws2 ∧ ws2.length = N ∧ usedL l (wordF ws2) = usedL l (wordF ws) := ⟨_,rfl,wordsA_len _ _,usedL_words hl (by rw [← hN]; exact Int.le_refl _) _⟩
   obtain ⟨ws2,ews2,hlen2,hus2⟩ := hws2
   have hiF : F = i := by omega
   have wlt : ¬ (i : Int) < (F : Int) := by omega
   have wx2 : ((i : Int) == (F : Int)) = true := by rw [hiF]; simp
   have F6 := And.intro F1 (And.intro @hid1 (And.intro @d0 (And.intro @d1 (And.intro @a0 (And.intro @a1 (And.intro @w2 (And.intro @w3 (And.intro @wlt @wx2))))))))
   refine eS fun _ hn49 _ _ => ?_;refine eS fun _ hn50 _ _ => ?_;refine eO fun _ hk51 => ?_;refine tZ F6 ?_;refine hk51 _ ?_;refine hn50 (some ([2,7,8,10,11,12,46],none)) _ ?_;refine eCt ?_;refine hn49 (some ([2,7,8,10,11,12],none)) _ ?_;refine eS fun _ hn52 _ _ => ?_;refine eB fun _ hn53 _ _ _ => ?_;refine eS fun _ hn54 _ _ => ?_;refine eCflP ([]) (fun done S => Closed flWt done ∧ ∃ x,RgC (flBl n l r ws F i) (fun x => flV n l r m ++ flW (.tk (takeM l m)) x) [7,8,9,10,11] 6 O1 n1 (MkP (.tk (takeM l m)) O1 n1) done S x) (fun S => ∃ x O9 n9,S = ⟨[(2,.v (.int .u8 r)),(7,.ptr (n + 1) 0 0),(8,.sl 3 0 (ws.map eWord)),(10,.sl 1 0 ((usedL l (wordF ws)).map eU)),(11,sI F),(12,sI i),(13,eAr (.tk (takeM l m)) x),(14,sI 0)],O9,n9⟩ ∧ MkP (.tk (takeM l m)) O1 n1 x O9 n9) ?_ ?_ ?_ ?_
   ·skip
    refine ⟨closed_nil _,⟨0,0,0,.any⟩,RgC.init (fun t v h => ?_) rfl rfl⟩
    simp only [getA] at h
    simp only [St.casts,St.keep,keepT,getA,reduceIte,Nat.reduceEqDiff]
    repeat' split at h
    all_goals first | (rename_i e9; subst e9; exact h) | cases h
   ·skip
    intro done S i0 ⟨hc,x,hI⟩ hr
    have hi9 := rdyN_lt hr
    have hnr := rdyN_not hr
    have b2 := hI.base 2 _ rfl
    have b7 := hI.base 7 _ rfl
    have mL := mk_memA hI (e := n + 1) (by omega) a1
    have hgot := fun t j v h h2 => hI.got t j v h h2
    have hpx := fun x => plainF (plain_eAr (.tk (takeM l m)) x)
    have hcase : i0 = 0 ∨ i0 = 1 ∨ i0 = 2 ∨ i0 = 3 ∨ i0 = 4 ∨ i0 = 5 ∨ i0 = 6 ∨ i0 = 7 ∨ i0 = 8 ∨ i0 = 9 ∨ i0 = 10 ∨ i0 = 11 := by simp at hi9; omega
    rcases hcase with rfl | rfl | rfl | rfl | rfl | rfl | rfl | rfl | rfl | rfl | rfl | rfl
    ·skip
     have F9 := And.intro b7 mL
     refine cfOpN rfl fun K9 hk9 => ?_;refine sh1 F9 ?_;refine sd ?_;refine hk9 _ ?_
     exact ⟨hc.cons hr,x,hI.put (i := 0) (t := 50) rfl rfl rfl (by decide) (fun h => by cases h)⟩
    ·skip
     have F9 := b2
     refine cfOpN rfl fun K9 hk9 => ?_;refine sh1 F9 ?_;refine hk9 _ ?_
     exact ⟨hc.cons hr,x,hI.put (i := 1) (t := 51) rfl rfl rfl (by decide) (fun h => by cases h)⟩
    ·skip
     have hw := rdyN_wait hr rfl
     have g1 := hgot 51 1 _ rfl (hw 1 rfl)
     have F9 := And.intro g1 w4
     refine cfOpN rfl fun K9 hk9 => ?_;refine sh1 F9 ?_;refine hk9 _ ?_
     exact ⟨hc.cons hr,x,hI.put (i := 2) (t := 52) rfl rfl rfl (by decide) (fun h => by cases h)⟩
    ·skip
     have F9 := And.intro b7 mL
     refine cfOpN rfl fun K9 hk9 => ?_;refine sh1 F9 ?_;refine hk9 _ ?_
     exact ⟨hc.cons hr,x,hI.put (i := 3) (t := 53) rfl rfl rfl (by decide) (fun h => by cases h)⟩
    ·skip
     have hw := rdyN_wait hr rfl
     have g1 := hgot 53 3 _ rfl (hw 3 rfl)
     have F9 := And.intro g1 mL
     refine cfOpN rfl fun K9 hk9 => ?_;refine sh1 F9 ?_;refine sd ?_;refine hk9 _ ?_
     exact ⟨hc.cons hr,x,hI.put (i := 4) (t := 54) rfl rfl rfl (by decide) (fun h => by cases h)⟩
    ·skip
     have hw := rdyN_wait hr rfl
     have g1 := hgot 52 2 _ rfl (hw 2 rfl)
     have g2 := hgot 54 4 _ rfl (hw 4 rfl)
     have F9 := And.intro g1 (And.intro g2 (And.intro w5 hB0))
     refine cfOpN rfl fun K9 hk9 => ?_;refine sh1 F9 ?_;refine sd ?_;refine hk9 _ ?_
     exact ⟨hc.cons hr,x,hI.put (i := 5) (t := 55) rfl rfl rfl (by decide) (fun h => by cases h)⟩
    ·have hw := rdyN_wait hr rfl
     have g1 := hgot 50 0 _ rfl (hw 0 rfl)
     have g2 := hgot 55 5 _ rfl (hw 5 rfl)
     obtain ⟨T9,O9,n9⟩ := S
     obtain ⟨e1,e2⟩ := hI.pre hnr
     dsimp only at e1 e2
     subst e1 e2
     dsimp only at g1 g2
     refine cfOpN rfl fun K9 hk9 => ?_;refine Or.inr (evCallO_mk (kT _ _) (by simp only [St.opdL,St.opd,g1,g2,St.res,Option.map_some,Option.bind_some]) fun J9 r9 O8 n8 hP9 => ?_)
     obtain ⟨x9,rfl,q1,q2,q3,q4⟩ := hP9
     refine hk9 _ ?_
     exact ⟨hc.cons hr,x9,hI.call2 (t := 56) hnr rfl rfl rfl rfl (MkP.of q1 q2 q3 q4)⟩
    ·skip
     have hw := rdyN_wait hr rfl
     have g1 := hgot 56 6 _ rfl (hw 6 rfl)
     have F9 := g1
     refine cfOpN rfl fun K9 hk9 => ?_;refine sh1 F9 ?_;refine hk9 _ ?_
     exact ⟨hc.cons hr,x,hI.put (i := 7) (t := 49) rfl rfl rfl (by decide) (fun _ => hw 6 rfl)⟩
    ·skip
     have hw := rdyN_wait hr rfl
     have h6 := hc 7 _ (hw 7 rfl) rfl 6 rfl
     have g1 := hgot 49 7 _ rfl (hw 7 rfl)
     have F9 := And.intro g1 (hpx x)
     refine cfOpN rfl fun K9 hk9 => ?_;refine sh1 F9 ?_;refine hk9 _ ?_
     exact ⟨hc.cons hr,x,hI.put (i := 8) (t := 57) rfl rfl rfl (by decide) (fun _ => h6)⟩
    ·skip
     have hw := rdyN_wait hr rfl
     have h6 := hc 7 _ (hw 7 rfl) rfl 6 rfl
     have g1 := hgot 49 7 _ rfl (hw 7 rfl)
     have F9 := And.intro g1 (hpx x)
     refine cfOpN rfl fun K9 hk9 => ?_;refine sh1 F9 ?_;refine hk9 _ ?_
     exact ⟨hc.cons hr,x,hI.put (i := 9) (t := 58) rfl rfl rfl (by decide) (fun _ => h6)⟩
    ·skip
     have hw := rdyN_wait hr rfl
     have g1 := hgot 57 8 _ rfl (hw 8 rfl)
     have F9 := And.intro g1 (hpx x)
     refine cfOpN rfl fun K9 hk9 => ?_;refine sh1 F9 ?_;refine hk9 _ ?_
     exact ⟨hc.cons hr,x,hI.put (i := 10) (t := 13) rfl rfl rfl (by decide) (fun _ => hw 6 rfl)⟩
    ·skip
     have hw := rdyN_wait hr rfl
     have g1 := hgot 58 9 _ rfl (hw 9 rfl)
     have F9 := g1
     refine cfOpN rfl fun K9 hk9 => ?_;refine sh1 F9 ?_;refine hk9 _ ?_
     exact ⟨hc.cons hr,x,hI.put (i := 11) (t := 14) rfl rfl rfl (by decide) (fun _ => hw 6 rfl)⟩
   ·skip
    rintro done S ⟨hc,x,hI⟩ hall
    have t2 := hI.base 2 _ rfl
    have t7 := hI.base 7 _ rfl
    have t8 := hI.base 8 _ rfl
    have t10 := hI.base 10 _ rfl
    have t11 := hI.base 11 _ rfl
    have t12 := hI.base 12 _ rfl
    have t13 := hI.got 13 10 _ rfl (hall 10 (by decide))
    have t14 := hI.got 14 11 _ rfl (hall 11 (by decide))
    obtain ⟨u1,u2,u3⟩ := hI.post (hall 6 (by decide))
    have hs9 : ∀ e,getA (srtO S.O) e = getA S.O e := fun e => getA_srtO _ _
    refine ⟨some ([2,7,8,10,11,12,13,14],none),x,srtO S.O,S.n,?_,⟨ArO.to u1 (Nat.le_refl _) (hs9 _) (hs9 _),⟨u2.le,fun e he hx => (hs9 e).trans (u2.old e he hx)⟩,u3⟩⟩
    show St.mk (keepT S.T [2,7,8,10,11,12,13,14]) _ _ = _
    simp only [St.keep,keepT,t2,t7,t8,t10,t11,t12,t13,t14]
   rintro S1 ⟨x,O2,n2,rfl,p1,p2,p3⟩
   have hle2 := p2.le
   have a0q : getA O2 n = some (.gh J) := by rw [p2.old n (by omega) (by simp)]; exact a0
   have a1q : getA O2 (n + 1) = some (.box 25 (eLay l)) := by rw [p2.old (n + 1) (by omega) (by simp)]; exact a1
   have hpx := plainF (plain_eAr (.tk (takeM l m)) x)
   have hid2 := oid n2
   have c0 := odl (n := n2) (d := n) (by omega)
   have c1 := odl (n := n2) (d := n + 1) (by omega)
   have kO := okO_l12one hl 0 ws (by rw [hlen,hN]; exact Int.le_refl _) (by omega) (.tk (takeM l m)) (takeOk hl hm) rfl (by rw [hX]; exact hXl) O2 n2 p1
   rw [hX,hXb.1,hXb.2,hlen,ews2] at kO
   have F7 := And.intro F6 (And.intro @hpx (And.intro @hid2 (And.intro @c0 (And.intro @c1 (And.intro @a0q @a1q)))))
   refine hn54 (some ([2,7,8,10,11,12,13,14],none)) _ ?_;refine eS fun _ hn55 _ _ => ?_;refine eO fun _ hk56 => ?_;refine tC 1 F7 ?_;refine tS 2 F7 ?_;refine tS 1 F7 ?_;refine Or.inr (evCallO_mk (kO) (sgE1 F7) (fun Jo7 ro7 Oo7 no7 hPo7 => ?_))
   obtain ⟨rfl,hle9,hfr9⟩ := hPo7
   have f0 : getA Oo7 n = some (.gh J) := by rw [hfr9 n (by omega) (by simp; omega)]; exact a0q
   have f1 : getA Oo7 (n + 1) = some (.box 25 (eLay l)) := by rw [hfr9 (n + 1) (by omega) (by simp; omega)]; exact a1q
   have hid9 := oid no7
   have e0 := odl (n := no7) (d := n) (by omega)
   have e1 := odl (n := no7) (d := n + 1) (by omega)
   have F8 := And.intro F7 (And.intro @hid9 (And.intro @e0 (And.intro @e1 (And.intro @f0 @f1))))
   refine tS 3 F8 ?_;refine tS 3 F8 ?_;refine tL F8 ?_;refine hk56 _ ?_;refine hn55 (some ([2,7,10,11,12,14,15,16,17,18],none)) _ ?_;refine eS fun _ hn57 _ _ => ?_;refine eS fun _ hn58 _ _ => ?_;refine eO fun _ hk59 => ?_;refine tC 2 F8 ?_;refine tS 3 F8 ?_;refine tS 3 F8 ?_;refine tC 1 F8 ?_;refine tC 3 F8 ?_;refine tS 1 F8 ?_;refine Or.inl ⟨_,eqsh_bool _ _,?_⟩;refine tL F8 ?_;refine hk59 _ ?_;refine hn58 (some ([2,7,10,11,12,15,16,17,81],none)) _ ?_;refine eCf ?_;refine hn57 (some ([2,7,10,11,12,15,16,17],none)) _ ?_;refine eS fun _ hn60 _ _ => ?_;refine eS fun _ hn61 _ _ => ?_;refine eO fun _ hk62 => ?_;refine tZ F8 ?_;refine hk62 _ ?_;refine hn61 (some ([2,7,10,11,12,15,16,17,84],none)) _ ?_;refine eCf ?_;refine hn60 (some ([2,7,10,11,12,15],none)) _ ?_;refine eO fun _ hk63 => ?_;refine tL F8 ?_;refine hk63 _ ?_;refine hn53 _ ?_;refine hn52 (some ([2,7,8,10,11,12],none)) _ ?_
   refine eO fun _ hk64 => ?_;refine tC 2 F8 ?_;refine tL F8 ?_;refine hk64 _ ?_;refine hn22 (F + 1 - (i + 1)) (some ([2,7,8,10,11,12],none)) _ ?_ ?_
   all_goals try refine lp0 ?_
   ·omega
   ·refine ⟨i + 1,ws2,delA Oo7 n2,no7,by omega,by omega,hlen2,by rw [hus2]; omega,by omega,?_,?_,by rw [hus2]⟩
    ·simp only [getA,getA_delO]; (repeat rw [if_neg (by omega)]); exact f0
    ·simp only [getA,getA_delO]; (repeat rw [if_neg (by omega)]); exact f1
theorem ok_ArenaFills {b : Int} (hb : 0 ≤ b ∧ b ≤ 255) (xs : List Int) {r : Int} (hr : 0 ≤ r ∧ r ≤ 255) : Ok 7 [.v (.int .u8 b),.sl 1 2 (xs.map eZ),.v (.int .u8 r)] (sB true) := ok_of_okO (okO_ArenaFills hb xs hr [] 0) rfl
end Go.Proofs.YtkmbcjnaaokilaaGreatDoor
