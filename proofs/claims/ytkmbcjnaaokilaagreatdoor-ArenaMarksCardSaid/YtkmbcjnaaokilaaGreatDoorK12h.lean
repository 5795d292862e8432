/-
  Layer 8 once more, for codes that have a part of one's own memory: Step.
-/
import Derived.Test.YtkmbcjnaaokilaaGreatDoorK12g
namespace Go.Proofs.YtkmbcjnaaokilaaGreatDoor
set_option linter.unusedSimpArgs false
set_option linter.unusedVariables false
open Go.RowKit Go.Maps
section
variable {C : Coder} {W : Owner C}
theorem fgtT_eq {a b : TaskM C} (h : fgtT W a = fgtT W b) : a.code.map W.fgt = b.code.map W.fgt ∧ a.live = b.live ∧ a.act = b.act ∧ a.gots = b.gots := by
 obtain ⟨c,l,x,g⟩ := a
 obtain ⟨c',l',x',g'⟩ := b
 unfold fgtT at h
 simp only [TaskM.mk.injEq] at h
 exact h
theorem give_fgt {a b : TaskM C} (g : GotV) (h : fgtT W a = fgtT W b) : fgtT W (giveM a g) = fgtT W (giveM b g) := by
 obtain ⟨c,l,x,gs⟩ := a
 obtain ⟨c',l',x',gs'⟩ := b
 obtain ⟨h1,h2,h3,h4⟩ := fgtT_eq h
 simp only at h1 h2 h3 h4
 subst h2 h3 h4
 cases l
 ·unfold giveM
  rw [if_neg (by simp),if_neg (by simp)]
  exact h
 ·cases c with
  | none =>
   cases c' with
   | none => rfl
   | some s => cases h1
  | some s =>
   cases c' with
   | none => cases h1
   | some s' =>
    have h1 : W.fgt s = W.fgt s' := Option.some.inj h1
    obtain ⟨n1,n2⟩ := W.nxt g h1
    show fgtT W (saidM _ (C.next s g).1 (C.next s g).2.1 (C.next s g).2.2) = fgtT W (saidM _ (C.next s' g).1 (C.next s' g).2.1 (C.next s' g).2.2)
    rw [n2]
    exact fgt_said rfl n1
theorem fgtW_eq {a b : WorldM C} (h : fgtW W a = fgtW W b) : a.m = b.m ∧ a.tasks.map (fgtT W) = b.tasks.map (fgtT W) ∧ a.stopped = b.stopped := by
 obtain ⟨m,l,s⟩ := a
 obtain ⟨m',l',s'⟩ := b
 unfold fgtW at h
 simp only [WorldM.mk.injEq] at h
 exact h
theorem fgtW_len {a b : WorldM C} (h : fgtW W a = fgtW W b) : a.tasks.length = b.tasks.length := by
 have := congrArg List.length (fgtW_eq h).2.1
 simpa using this
theorem fgtW_get {a b : WorldM C} (h : fgtW W a = fgtW W b) {i : Nat} {y : TaskM C} (hy : a.tasks[i]? = some y) : ∃ z,b.tasks[i]? = some z ∧ fgtT W y = fgtT W z := by
 have := congrArg (fun l => l[i]?) (fgtW_eq h).2.1
 simp only [List.getElem?_map,hy,Option.map_some] at this
 cases hz : b.tasks[i]? with
 | none => rw [hz] at this; cases this
 | some z => rw [hz] at this; exact ⟨z,rfl,Option.some.inj this⟩
theorem fgtW_mk {a b : WorldM C} (h1 : a.m = b.m) (h2 : a.tasks.map (fgtT W) = b.tasks.map (fgtT W)) (h3 : a.stopped = b.stopped) : fgtW W a = fgtW W b := by
 unfold fgtW
 rw [h1,h2,h3]
theorem live_fgt {a b : WorldM C} (h : fgtW W a = fgtW W b) (i : Nat) : liveAt a i = liveAt b i := by
 unfold liveAt
 cases hy : a.tasks[i]? with
 | none =>
  have hl := fgtW_len h
  rw [List.getElem?_eq_none_iff] at hy
  rw [List.getElem?_eq_none (by omega)]
 | some y =>
  obtain ⟨z,hz,e⟩ := fgtW_get h hy
  rw [hz]
  show y.live = z.live
  exact (fgtT_eq e).2.1
theorem stopped_fgt {a b : WorldM C} (h : fgtW W a = fgtW W b) (i : Nat) : stoppedM a i = stoppedM b i := by unfold stoppedM; rw [(fgtW_eq h).2.2]
theorem takes_fgt {a b : WorldM C} (h : fgtW W a = fgtW W b) (t : Int) : takesM a t = takesM b t := by
 unfold takesM
 rw [fgtW_len h,stopped_fgt h,live_fgt h]
theorem step_fgt {a b : WorldM C} (h : fgtW W a = fgtW W b) (p : PickV) : fgtW W (stepM a p).1 = fgtW W (stepM b p).1 ∧ (stepM a p).2 = (stepM b p).2 := by
 obtain ⟨e1,e2,e3⟩ := fgtW_eq h
 have hd : deadM a = deadM b := by unfold deadM; rw [e1]
 unfold stepM
 rw [hd,takes_fgt h]
 split
 ·exact ⟨h,rfl⟩
 ·split
  ·rw [e1]; exact ⟨rfl,rfl⟩
  ·split
   ·exact ⟨h,rfl⟩
   ·split
    ·refine ⟨?_,rfl⟩
     show fgtW W (goM a p.thread p.choice) = fgtW W (goM b p.thread p.choice)
     unfold goM
     cases hy : a.tasks[(p.thread - 1).toNat]? with
     | none =>
      have hl := fgtW_len h
      rw [List.getElem?_eq_none_iff] at hy
      rw [List.getElem?_eq_none (by omega)]
      exact h
     | some y =>
      obtain ⟨z,hz,e⟩ := fgtW_get h hy
      rw [hz]
      obtain ⟨_,_,e5,_⟩ := fgtT_eq e
      simp only [e1,e5]
      refine fgtW_mk rfl ?_ e3
      unfold setTask
      simp only [List.map_set,e2,give_fgt _ e]
    ·split
     ·exact ⟨fgtW_mk e1 e2 (by show a.stopped.set _ _ = b.stopped.set _ _; rw [e3]),rfl⟩
     ·exact ⟨h,rfl⟩
theorem goes_fgt (t : Int) : ∀ (k : Nat) {a b : WorldM C},fgtW W a = fgtW W b → fgtW W (goesM a t k) = fgtW W (goesM b t k)
 | 0,_,_,h => h
 | k + 1,a,b,h => by
  obtain ⟨h1,h2⟩ := step_fgt h ⟨0,t,0⟩
  unfold goesM
  rw [h2]
  split
  ·exact goes_fgt t k h1
  ·exact h
theorem taskOk_fgt {a b : TaskM C} {n : Nat} (h : fgtT W a = fgtT W b) (hk : TaskOk a n) : TaskOk b n := by
 obtain ⟨h1,h2,_,h4⟩ := fgtT_eq h
 refine ⟨by rw [← h4]; exact hk.gots,fun hl => ?_,fun s hs => ?_⟩
 ·obtain ⟨s,hs⟩ := hk.code (by rw [h2]; exact hl)
  rw [hs] at h1
  cases hb : b.code with
  | none => rw [hb] at h1; cases h1
  | some s' => exact ⟨s',rfl⟩
 ·rw [hs] at h1
  cases ha : a.code with
  | none => rw [ha] at h1; cases h1
  | some s' =>
   rw [ha] at h1
   exact W.good' (Option.some.inj h1) (hk.good s' ha)
theorem worldOk_fgt {a b : WorldM C} {n : Nat} (h : fgtW W a = fgtW W b) (hk : WorldOk a n) : WorldOk b n := by
 obtain ⟨e1,e2,e3⟩ := fgtW_eq h
 refine ⟨by rw [← e1]; exact hk.mach,by rw [← fgtW_len h,← e1]; exact hk.few,by rw [← e3,← fgtW_len h]; exact hk.stops,fun t ht => ?_⟩
 obtain ⟨i,hi⟩ := List.getElem?_of_mem ht
 obtain ⟨z,hz,e⟩ := fgtW_get h.symm hi
 exact taskOk_fgt e.symm (hk.task z (List.mem_of_getElem? hz))
def SPost (w : WorldM C) (O : List (Nat × Ob)) (n : Nat) (W : Owner C) (R : WorldM C × Bool) (_ : Hp → Env → Prop) (r : Sh) (O' : List (Nat × Ob)) (n' : Nat) : Prop :=
 ∃ w',fgtW W w' = fgtW W R.1 ∧ r = .tup [eWorld w',sB R.2] ∧ WOwn W w' O' n' ∧ OFr (wIds W w) (wIds W w') O n O' n' ∧ (R.2 = false → w' = w)
set_option maxHeartbeats 4000000 in
theorem okO_kStep (w : WorldM C) (p : PickV) {k : Nat} (h : WorldOk w k) (hn : k ≤ 900) (O : List (Nat × Ob)) (n : Nat) (ho : WOwn W w O n) : OkO 24 [eWorld w,.agg (ePick p)] O n (SPost w O n W (stepM w p)) := by
 refine okO_of_trS Tryz.func24 tr_kStep rfl fun J => ?_
 have hid := oid n
 have k0 := ok_kDead w
 have h8 := worldOk_eight h
 have hlt : ∀ e ∈ wIds W w,e < n := fun e he => wOwn_lt ho he
 obtain ⟨kd,th,ch⟩ := p
 unfold stepM
 simp only
 cases hd : deadM w
 case true =>
  rw [hd] at k0
  rw [if_pos rfl]
  unfold sc_kStep rv_kStep
  have F1 := @hid
  refine eS fun K1 hn1 hr1 he1 => ?_;refine eO fun K2 hk2 => ?_;refine tL F1 ?_;refine hk2 _ ?_;refine hn1 (some ([2,3,4],none)) _ ?_;refine eS fun K3 hn3 hr3 he3 => ?_;refine eB fun K4 hn4 hx4 hr4 he4 => ?_;refine eS fun K5 hn5 hr5 he5 => ?_;refine eO fun K6 hk6 => ?_;refine tC 1 F1 ?_;refine tS 1 F1 ?_;refine Or.inl (Or.inl ⟨_,k0,?_⟩);refine tL F1 ?_;refine hk6 _ ?_;refine hn5 (some ([2,3,4,6],none)) _ ?_;refine eCt ?_;refine hn4 _ ?_;refine hn3 (some ([2,4],none)) _ ?_;refine eS fun K7 hn7 hr7 he7 => ?_;refine eO fun K8 hk8 => ?_;refine tC 1 F1 ?_;refine tC 1 F1 ?_;refine tL F1 ?_;refine hk8 _ ?_;refine hn7 (some ([4,5],none)) _ ?_
  first | refine finO_ret (sgE1 F1) (sgE1 F1) (sgE1 F1) ?_ | refine finO_next (sgE1 F1) (sgE1 F1) (sgE1 F1) ?_
  try dsimp only
  refine ⟨w,rfl,rfl,wOwn_to ho (by omega) fun e he => ?_,⟨by omega,fun e he hx => ?_,fun e he => .inl he⟩,fun _ => rfl⟩
  ·have := hlt e he
   simp only [getA,getA_delO]; repeat rw [if_neg (by omega)]
  ·simp only [getA,getA_delO]; repeat rw [if_neg (by omega)]
 rw [hd] at k0
 rw [if_neg (by simp)]
 by_cases h2 : kd = 2
 ·subst h2
  rw [if_pos rfl]
  have k1 := ok_cCrash w.m ch h.mach hn
  generalize crashM w.m ch = Q at k1 ⊢
  unfold sc_kStep rv_kStep
  have F1 := @hid
  refine eS fun K1 hn1 hr1 he1 => ?_;refine eO fun K2 hk2 => ?_;refine tL F1 ?_;refine hk2 _ ?_;refine hn1 (some ([2,3,4],none)) _ ?_;refine eS fun K3 hn3 hr3 he3 => ?_;refine eB fun K4 hn4 hx4 hr4 he4 => ?_;refine eS fun K5 hn5 hr5 he5 => ?_;refine eO fun K6 hk6 => ?_;refine tC 1 F1 ?_;refine tS 1 F1 ?_;refine Or.inl (Or.inl ⟨_,k0,?_⟩);refine tL F1 ?_;refine hk6 _ ?_;refine hn5 (some ([2,3,4,6],none)) _ ?_;refine eCf ?_;refine eS fun K7 hn7 hr7 he7 => ?_;refine eO fun K8 hk8 => ?_;refine tC 2 F1 ?_;refine tC 1 F1 ?_;refine tL F1 ?_;refine hk8 _ ?_;refine hn7 (some ([2,3,4,9],none)) _ ?_;refine eCt ?_;refine eS fun K9 hn9 hr9 he9 => ?_;refine eO fun K10 hk10 => ?_;refine tC 2 F1 ?_;refine tC 2 F1 ?_;refine tS 1 F1 ?_;refine Or.inl (Or.inl ⟨_,k1,?_⟩);refine tC 2 F1 ?_;refine tL F1 ?_;refine hk10 _ ?_;refine hn9 (some ([4,5],none)) _ ?_;refine hr4 _ ?_;refine hr3 _ ?_
  first | refine finO_ret (sgE1 F1) (sgE1 F1) (sgE1 F1) ?_ | refine finO_next (sgE1 F1) (sgE1 F1) (sgE1 F1) ?_
  try dsimp only
  refine ⟨⟨Q,[],[]⟩,rfl,rfl,⟨fun t ht => (by cases ht),fun i j ti tj _ hi => by simp at hi⟩,⟨by omega,fun e he hx => ?_,fun e he => (by cases he)⟩,fun h => nomatch h⟩
  simp only [getA,getA_delO]; repeat rw [if_neg (by omega)]
 rw [if_neg h2]
 have d2 : (kd == 2) = false := by simpa using h2
 have k2 := ok_kTakes w th h8
 cases ht : takesM w th
 ·rw [ht] at k2
  rw [if_pos rfl]
  unfold sc_kStep rv_kStep
  have F1 := And.intro @hid @d2
  refine eS fun K1 hn1 hr1 he1 => ?_;refine eO fun K2 hk2 => ?_;refine tL F1 ?_;refine hk2 _ ?_;refine hn1 (some ([2,3,4],none)) _ ?_;refine eS fun K3 hn3 hr3 he3 => ?_;refine eB fun K4 hn4 hx4 hr4 he4 => ?_;refine eS fun K5 hn5 hr5 he5 => ?_;refine eO fun K6 hk6 => ?_;refine tC 1 F1 ?_;refine tS 1 F1 ?_;refine Or.inl (Or.inl ⟨_,k0,?_⟩);refine tL F1 ?_;refine hk6 _ ?_;refine hn5 (some ([2,3,4,6],none)) _ ?_;refine eCf ?_;refine eS fun K7 hn7 hr7 he7 => ?_;refine eO fun K8 hk8 => ?_;refine tC 2 F1 ?_;refine tC 1 F1 ?_;refine tL F1 ?_;refine hk8 _ ?_;refine hn7 (some ([2,3,4,9],none)) _ ?_;refine eCf ?_;refine eS fun K9 hn9 hr9 he9 => ?_;refine eO fun K10 hk10 => ?_;refine tC 1 F1 ?_;refine tC 2 F1 ?_;refine tS 1 F1 ?_;refine Or.inl (Or.inl ⟨_,k2,?_⟩);refine tL F1 ?_;refine hk10 _ ?_;refine hn9 (some ([2,3,4,19],none)) _ ?_;refine eCt ?_;refine hn4 _ ?_;refine hn3 (some ([2,4],none)) _ ?_
  refine eS fun K11 hn11 hr11 he11 => ?_;refine eO fun K12 hk12 => ?_;refine tC 1 F1 ?_;refine tC 1 F1 ?_;refine tL F1 ?_;refine hk12 _ ?_;refine hn11 (some ([4,5],none)) _ ?_
  first | refine finO_ret (sgE1 F1) (sgE1 F1) (sgE1 F1) ?_ | refine finO_next (sgE1 F1) (sgE1 F1) (sgE1 F1) ?_
  try dsimp only
  refine ⟨w,rfl,rfl,wOwn_to ho (by omega) fun e he => ?_,⟨by omega,fun e he hx => ?_,fun e he => .inl he⟩,fun _ => rfl⟩
  ·have := hlt e he
   simp only [getA,getA_delO]; repeat rw [if_neg (by omega)]
  ·simp only [getA,getA_delO]; repeat rw [if_neg (by omega)]
 rw [ht] at k2
 rw [if_neg (by simp)]
 by_cases h0 : kd = 0
 ·subst h0
  rw [if_pos rfl]
  have k3 := fun X N hX => okO_kgo (W := W) w th ch h hn ht X N hX
  generalize goM w th ch = Q at k3 ⊢
  have hoX : ∀ a b c,WOwn W w ((n + 3,a) :: (n + 2,b) :: (n + 1,c) :: (n,.gh J) :: O) (n + 4) := fun a b c => wOwn_to ho (by omega) fun e he => by
   have := hlt e he
   simp only [getA]; repeat rw [if_neg (by omega)]
  unfold sc_kStep rv_kStep
  have F1 := And.intro @hid @d2
  refine eS fun K1 hn1 hr1 he1 => ?_;refine eO fun K2 hk2 => ?_;refine tL F1 ?_;refine hk2 _ ?_;refine hn1 (some ([2,3,4],none)) _ ?_;refine eS fun K3 hn3 hr3 he3 => ?_;refine eB fun K4 hn4 hx4 hr4 he4 => ?_;refine eS fun K5 hn5 hr5 he5 => ?_;refine eO fun K6 hk6 => ?_;refine tC 1 F1 ?_;refine tS 1 F1 ?_;refine Or.inl (Or.inl ⟨_,k0,?_⟩);refine tL F1 ?_;refine hk6 _ ?_;refine hn5 (some ([2,3,4,6],none)) _ ?_;refine eCf ?_;refine eS fun K7 hn7 hr7 he7 => ?_;refine eO fun K8 hk8 => ?_;refine tC 2 F1 ?_;refine tC 1 F1 ?_;refine tL F1 ?_;refine hk8 _ ?_;refine hn7 (some ([2,3,4,9],none)) _ ?_;refine eCf ?_;refine eS fun K9 hn9 hr9 he9 => ?_;refine eO fun K10 hk10 => ?_;refine tC 1 F1 ?_;refine tC 2 F1 ?_;refine tS 1 F1 ?_;refine Or.inl (Or.inl ⟨_,k2,?_⟩);refine tL F1 ?_;refine hk10 _ ?_;refine hn9 (some ([2,3,4,19],none)) _ ?_;refine eCf ?_;refine eS fun K11 hn11 hr11 he11 => ?_;refine eO fun K12 hk12 => ?_
  refine tC 2 F1 ?_;refine tC 1 F1 ?_;refine tL F1 ?_;refine hk12 _ ?_;refine hn11 (some ([2,3,4,25],none)) _ ?_;refine eCt ?_;refine eS fun K13 hn13 hr13 he13 => ?_;refine eO fun K14 hk14 => ?_;refine tC 1 F1 ?_;refine tC 2 F1 ?_;refine tC 2 F1 ?_;refine tS 1 F1 ?_;refine Or.inr (evCallO_mk (k3 _ _ (hoX _ _ _)) (sgE1 F1) (fun Jo3 ro3 Oo3 no3 hPo3 => ?_))
  obtain ⟨w',hw',rfl,hO',hF⟩ := hPo3
  dsimp only at hO' hF
  have g0 := hF.at (e := n) (X := .gh J) (by omega) (fun hm => absurd (hlt _ hm) (by omega)) (sgE1 F1)
  have g3 := hF.at (e := n + 3) (X := .box 63 zCells) (by omega) (fun hm => absurd (hlt _ hm) (by omega)) (sgE1 F1)
  have F2 := And.intro F1 (And.intro @g0 @g3)
  refine tC 1 F2 ?_;refine tL F2 ?_;refine hk14 _ ?_;refine hn13 (some ([4,5],none)) _ ?_;refine hr4 _ ?_;refine hr3 _ ?_
  first | refine finO_ret (sgE1 F2) (sgE1 F2) (sgE1 F2) ?_ | refine finO_next (sgE1 F2) (sgE1 F2) (sgE1 F2) ?_
  try dsimp only
  refine ⟨w',hw',rfl,wOwn_to hO' (by omega) fun e he => ?_,⟨by have := hF.le; omega,fun e he hx => ?_,fun e he => ?_⟩,fun h => nomatch h⟩
  ·rcases hF.new e he with h | h
   ·have := hlt e h; simp only [getA,getA_delO]; repeat rw [if_neg (by omega)]
   ·simp only [getA,getA_delO]; repeat rw [if_neg (by omega)]
  ·simp only [getA,getA_delO]; repeat rw [if_neg (by omega)]
   rw [hF.old e (by omega) hx]
   simp only [getA]; repeat rw [if_neg (by omega)]
  ·rcases hF.new e he with h | h
   ·exact .inl h
   ·exact .inr (by omega)
 rw [if_neg h0]
 have d0 : (kd == 0) = false := by simpa using h0
 by_cases h1 : kd = 1
 ·subst h1
  rw [if_pos rfl]
  have k4 := ok_khalt w th h ht
  have hoH : WOwn W (haltM w th) O n := ⟨ho.own,ho.ap⟩
  have hiH : wIds W (haltM w th) = wIds W w := rfl
  generalize haltM w th = Q at k4 hoH hiH ⊢
  unfold sc_kStep rv_kStep
  have F1 := And.intro @hid (And.intro @d2 @d0)
  refine eS fun K1 hn1 hr1 he1 => ?_;refine eO fun K2 hk2 => ?_;refine tL F1 ?_;refine hk2 _ ?_;refine hn1 (some ([2,3,4],none)) _ ?_;refine eS fun K3 hn3 hr3 he3 => ?_;refine eB fun K4 hn4 hx4 hr4 he4 => ?_;refine eS fun K5 hn5 hr5 he5 => ?_;refine eO fun K6 hk6 => ?_;refine tC 1 F1 ?_;refine tS 1 F1 ?_;refine Or.inl (Or.inl ⟨_,k0,?_⟩);refine tL F1 ?_;refine hk6 _ ?_;refine hn5 (some ([2,3,4,6],none)) _ ?_;refine eCf ?_;refine eS fun K7 hn7 hr7 he7 => ?_;refine eO fun K8 hk8 => ?_;refine tC 2 F1 ?_;refine tC 1 F1 ?_;refine tL F1 ?_;refine hk8 _ ?_;refine hn7 (some ([2,3,4,9],none)) _ ?_;refine eCf ?_;refine eS fun K9 hn9 hr9 he9 => ?_;refine eO fun K10 hk10 => ?_;refine tC 1 F1 ?_;refine tC 2 F1 ?_;refine tS 1 F1 ?_;refine Or.inl (Or.inl ⟨_,k2,?_⟩);refine tL F1 ?_;refine hk10 _ ?_;refine hn9 (some ([2,3,4,19],none)) _ ?_;refine eCf ?_;refine eS fun K11 hn11 hr11 he11 => ?_;refine eO fun K12 hk12 => ?_
  refine tC 2 F1 ?_;refine tC 1 F1 ?_;refine tL F1 ?_;refine hk12 _ ?_;refine hn11 (some ([2,3,4,25],none)) _ ?_;refine eCf ?_;refine eS fun K13 hn13 hr13 he13 => ?_;refine eO fun K14 hk14 => ?_;refine tC 2 F1 ?_;refine tC 1 F1 ?_;refine tL F1 ?_;refine hk14 _ ?_;refine hn13 (some ([2,3,4,35],none)) _ ?_;refine eCt ?_;refine eS fun K15 hn15 hr15 he15 => ?_;refine eO fun K16 hk16 => ?_;refine tC 1 F1 ?_;refine tC 2 F1 ?_;refine tS 1 F1 ?_;refine Or.inl (Or.inl ⟨_,k4,?_⟩);refine tC 1 F1 ?_;refine tL F1 ?_;refine hk16 _ ?_;refine hn15 (some ([4,5],none)) _ ?_;refine hr4 _ ?_;refine hr3 _ ?_
  first | refine finO_ret (sgE1 F1) (sgE1 F1) (sgE1 F1) ?_ | refine finO_next (sgE1 F1) (sgE1 F1) (sgE1 F1) ?_
  try dsimp only
  refine ⟨Q,rfl,rfl,wOwn_to hoH (by omega) fun e he => ?_,⟨by omega,fun e he hx => ?_,fun e he => .inl (by rw [← hiH]; exact he)⟩,fun h => nomatch h⟩
  ·have := hlt e (by rw [← hiH]; exact he)
   simp only [getA,getA_delO]; repeat rw [if_neg (by omega)]
  ·simp only [getA,getA_delO]; repeat rw [if_neg (by omega)]
 rw [if_neg h1]
 have d1 : (kd == 1) = false := by simpa using h1
 unfold sc_kStep rv_kStep
 have F1 := And.intro @hid (And.intro @d2 (And.intro @d0 @d1))
 refine eS fun K1 hn1 hr1 he1 => ?_;refine eO fun K2 hk2 => ?_;refine tL F1 ?_;refine hk2 _ ?_;refine hn1 (some ([2,3,4],none)) _ ?_;refine eS fun K3 hn3 hr3 he3 => ?_;refine eB fun K4 hn4 hx4 hr4 he4 => ?_;refine eS fun K5 hn5 hr5 he5 => ?_;refine eO fun K6 hk6 => ?_;refine tC 1 F1 ?_;refine tS 1 F1 ?_;refine Or.inl (Or.inl ⟨_,k0,?_⟩);refine tL F1 ?_;refine hk6 _ ?_;refine hn5 (some ([2,3,4,6],none)) _ ?_;refine eCf ?_;refine eS fun K7 hn7 hr7 he7 => ?_;refine eO fun K8 hk8 => ?_;refine tC 2 F1 ?_;refine tC 1 F1 ?_;refine tL F1 ?_;refine hk8 _ ?_;refine hn7 (some ([2,3,4,9],none)) _ ?_;refine eCf ?_;refine eS fun K9 hn9 hr9 he9 => ?_;refine eO fun K10 hk10 => ?_;refine tC 1 F1 ?_;refine tC 2 F1 ?_;refine tS 1 F1 ?_;refine Or.inl (Or.inl ⟨_,k2,?_⟩);refine tL F1 ?_;refine hk10 _ ?_;refine hn9 (some ([2,3,4,19],none)) _ ?_;refine eCf ?_;refine eS fun K11 hn11 hr11 he11 => ?_;refine eO fun K12 hk12 => ?_
 refine tC 2 F1 ?_;refine tC 1 F1 ?_;refine tL F1 ?_;refine hk12 _ ?_;refine hn11 (some ([2,3,4,25],none)) _ ?_;refine eCf ?_;refine eS fun K13 hn13 hr13 he13 => ?_;refine eO fun K14 hk14 => ?_;refine tC 2 F1 ?_;refine tC 1 F1 ?_;refine tL F1 ?_;refine hk14 _ ?_;refine hn13 (some ([2,3,4,35],none)) _ ?_;refine eCf ?_;refine hn4 _ ?_;refine hn3 (some ([2,4],none)) _ ?_;refine eS fun K15 hn15 hr15 he15 => ?_;refine eO fun K16 hk16 => ?_;refine tC 1 F1 ?_;refine tC 1 F1 ?_;refine tL F1 ?_;refine hk16 _ ?_;refine hn15 (some ([4,5],none)) _ ?_
 first | refine finO_ret (sgE1 F1) (sgE1 F1) (sgE1 F1) ?_ | refine finO_next (sgE1 F1) (sgE1 F1) (sgE1 F1) ?_
 try dsimp only
 refine ⟨w,rfl,rfl,wOwn_to ho (by omega) fun e he => ?_,⟨by omega,fun e he hx => ?_,fun e he => .inl he⟩,fun _ => rfl⟩
 ·have := hlt e he
  simp only [getA,getA_delO]; repeat rw [if_neg (by omega)]
 ·simp only [getA,getA_delO]; repeat rw [if_neg (by omega)]
end
end Go.Proofs.YtkmbcjnaaokilaaGreatDoor
