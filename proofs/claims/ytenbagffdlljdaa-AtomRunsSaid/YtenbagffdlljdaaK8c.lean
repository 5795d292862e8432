/-
  Layer 8 by shadows: steps, runs.
-/
import Derived.Test.YtenbagffdlljdaaK8b
import Derived.Test.YtenbagffdlljdaaMC
namespace Go.Proofs.Ytenbagffdlljdaa
set_option linter.unusedSimpArgs false
set_option linter.unusedVariables false
open Go.RowKit Go.Maps
def setTask {C : Coder} (w : WorldM C) (m : MachM) (i : Nat) (t : TaskM C) : WorldM C := ⟨m, w.tasks.set i t, w.stopped⟩
noncomputable def goM {C : Coder} (w : WorldM C) (t c : Int) : WorldM C := match w.tasks[(t - 1).toNat]? with
  | some y => setTask w (doM w.m t y.act c).1 (t - 1).toNat (giveM y (doM w.m t y.act c).2.1)
  | none => w
def haltM {C : Coder} (w : WorldM C) (t : Int) : WorldM C := { w with stopped := w.stopped.set (t - 1).toNat true }
structure PickV where
  kind : Int
  thread : Int
  choice : Int
abbrev ePick (p : PickV) : List Sh := [sI p.kind, sI p.thread, sI p.choice]
noncomputable def stepM {C : Coder} (w : WorldM C) (p : PickV) : WorldM C × Bool :=
  if deadM w = true then (w, false)
  else if p.kind = 2 then (⟨crashM w.m p.choice, [], []⟩, true)
  else if takesM w p.thread = false then (w, false)
  else if p.kind = 0 then (goM w p.thread p.choice, true)
  else if p.kind = 1 then (haltM w p.thread, true)
  else (w, false)
theorem takes_spec {C : Coder} {w : WorldM C} {t : Int} (h : takesM w t = true) : ∃ (m : Nat) (y : TaskM C), t = (m : Int) + 1 ∧ w.tasks[m]? = some y ∧ y.live = true ∧ stoppedM w m = false := by
  unfold takesM at h
  simp only [Bool.and_eq_true, decide_eq_true_eq, Bool.not_eq_true'] at h
  obtain ⟨⟨h1, h2⟩, h3, h4⟩ := h
  obtain ⟨m, hm⟩ := Int.eq_ofNat_of_zero_le (show 0 ≤ t - 1 by omega)
  rw [hm, Int.toNat_natCast] at h3 h4
  obtain ⟨y, hy⟩ : ∃ y, w.tasks[m]? = some y := ⟨_, List.getElem?_eq_getElem (by omega)⟩
  refine ⟨m, y, by omega, hy, ?_, h3⟩
  unfold liveAt at h4
  rw [hy] at h4; exact h4
theorem toldOk {C : Coder} {t : TaskM C} {s : C.St} {a : ActM} {b : Bool} {n : Nat} (hg : t.gots.length ≤ n) (hs : C.good n s) : TaskOk (saidM t s a b) n := by
  unfold saidM
  split
  · exact ⟨hg, (fun h => nomatch h), fun s' h => by cases h; exact hs⟩
  · exact ⟨hg, fun _ => ⟨s, rfl⟩, fun s' h => by cases h; exact hs⟩
theorem giveOk {C : Coder} {t : TaskM C} {g : GotV} {n : Nat} (h : TaskOk t n) : TaskOk (giveM t g) (n + 1) := by
  unfold giveM
  split
  · rename_i hl
    obtain ⟨s, hs⟩ := h.code hl
    rw [hs]
    exact toldOk (t := { t with gots := t.gots ++ [g] }) (by have := h.gots; simp; omega) (C.keeps g (h.good s hs))
  · exact taskOk_up h (by omega)
theorem startOk {C : Coder} {s : C.St} {n : Nat} (h : C.good n s) : TaskOk (startM s) (n + 1) := toldOk (t := zTask C) (by simp [zTask]) (C.keeps zGot h)
theorem goOk {C : Coder} {w : WorldM C} {n : Nat} (h : WorldOk w n) (t c : Int) : WorldOk (goM w t c) (n + 1) := by
  unfold goM
  split
  · rename_i y hy
    have hs := size_do h.mach t y.act c
    refine ⟨machOk_do h.mach t y.act c, by simp only [setTask, List.length_set]; rw [hs.1]; exact h.few, by simp only [setTask, List.length_set]; exact h.stops, fun x hx => ?_⟩
    rcases List.mem_or_eq_of_mem_set hx with hx | rfl
    · exact taskOk_up (h.task x hx) (by omega)
    · exact giveOk (h.task y (List.mem_of_getElem? hy))
  · exact worldOk_up h (by omega)
theorem haltOk {C : Coder} {w : WorldM C} {n : Nat} (h : WorldOk w n) (t : Int) : WorldOk (haltM w t) n := ⟨h.mach, h.few, by simp only [haltM, List.length_set]; exact h.stops, h.task⟩
theorem stepOk {C : Coder} {w : WorldM C} {n : Nat} (h : WorldOk w n) (p : PickV) : WorldOk (stepM w p).1 (n + 1) := by
  have hu := worldOk_up h (show n ≤ n + 1 by omega)
  unfold stepM
  split
  · exact hu
  · split
    · exact ⟨machOk_crash h.mach p.choice, by simp, rfl, fun t ht => by cases ht⟩
    · split
      · exact hu
      · split
        · exact goOk h _ _
        · split
          · exact haltOk hu _
          · exact hu
set_option maxHeartbeats 4000000 in
theorem ok_kgo {C : Coder} [CoRuns C] (w : WorldM C) (t c : Int) {n : Nat} (h : WorldOk w n) (hn : n ≤ 900) (ht : takesM w t = true) : Ok 71 [eWorld w, sI t, sI c] (eWorld (goM w t c)) := by
  refine ok_of_tr Try.func71 tr_kgo rfl ?_
  obtain ⟨m, y, rfl, hy, hl, _⟩ := takes_spec ht
  have hK := shK C
  have h8 := worldOk_eight h
  have hml := (List.getElem?_eq_some_iff.1 hy).1
  have q1 : IntKind.i64.wrap ((m : Int) + 1 - 1) = (m : Int) := by rw [IntKind.wrap_i64]; omega
  have k0 := ok_kAct y
  rw [hl] at k0
  have k1 := ok_cDo w.m ((m : Int) + 1) y.act c h.mach hn
  have k2 := fun g => row_cloneTask g (w.tasks.map eTask) (by simp; omega)
  have k3 := fun g => ok_kGive y g (h.task y (List.mem_of_getElem? hy)) hn
  have em : ((m : Int) + 1 - 1).toNat = m := by omega
  have eg : goM w ((m : Int) + 1) c = setTask w (doM w.m ((m : Int) + 1) y.act c).1 m (giveM y (doM w.m ((m : Int) + 1) y.act c).2.1) := by
    unfold goM
    rw [em, hy]
  rw [eg]
  have k3 := k3 (doM w.m ((m : Int) + 1) y.act c).2.1
  have hz : (doM w.m ((m : Int) + 1) y.act c).2.2 ≠ 0 → (doM w.m ((m : Int) + 1) y.act c).1 = w.m ∧ (doM w.m ((m : Int) + 1) y.act c).2.1 = zGot := by
    unfold doM; split
    · intro h; exact absurd rfl h
    · intro _; exact ⟨rfl, rfl⟩
  have hset : ∀ z : TaskM C, (w.tasks.map eTask).set m (eTask z) = (w.tasks.set m z).map eTask := fun z => by rw [List.map_set]
  have q3 : (m : Int) < (w.tasks.length : Int) := by omega
  unfold setTask
  generalize doM w.m ((m : Int) + 1) y.act c = R at k1 k3 hz ⊢
  obtain ⟨R1, R2, R3⟩ := R
  simp only at k1 k3 hz ⊢
  generalize giveM y R2 = z at k3 ⊢
  have hset := hset z
  by_cases h0 : R3 = 0
  · subst h0
    unfold evFn sc_kgo rv_kgo
    have F1 := And.intro @q1 (And.intro @q3 (And.intro @hml (And.intro @hy (And.intro @hK @hset))))
    refine eS fun K1 hn1 hr1 he1 => ?_;refine eO fun K2 hk2 => ?_;refine tL F1 ?_;refine hk2 _ ?_;refine hn1 (some ([1,2,3,6], none)) _ ?_;refine eS fun K3 hn3 hr3 he3 => ?_;refine eO fun K4 hk4 => ?_;refine tC 2 F1 ?_;refine tC 2 F1 ?_;refine tC 1 F1 ?_;refine tC 1 F1 ?_;refine tS 1 F1 ?_;refine Or.inl (Or.inl ⟨_, k0, ?_⟩);refine tC 5 F1 ?_;refine tL F1 ?_;refine hk4 _ ?_;refine hn3 (some ([1,2,3,6,7], none)) _ ?_;refine eS fun K5 hn5 hr5 he5 => ?_;refine eO fun K6 hk6 => ?_;refine tC 2 F1 ?_;refine tC 2 F1 ?_;refine tS 1 F1 ?_;refine tS 1 F1 ?_;refine Or.inl (Or.inl ⟨_, k1, ?_⟩);refine tC 7 F1 ?_;refine tC 1 F1 ?_;refine tL F1 ?_;refine hk6 _ ?_;refine hn5 (some ([1,3,6,9,10,11], none)) _ ?_;refine eS fun K7 hn7 hr7 he7 => ?_;refine eS fun K8 hn8 hr8 he8 => ?_;refine eO fun K9 hk9 => ?_;refine tZ F1 ?_;refine hk9 _ ?_;refine hn8 (some ([1,3,6,9,10,33], none)) _ ?_;refine eCf ?_;refine eO fun K10 hk10 => ?_
    refine tC 1 F1 ?_;refine tZ F1 ?_;refine hk10 _ ?_;refine hn7 (some ([1,3,6,10], none)) _ ?_;refine eS fun K11 hn11 hr11 he11 => ?_;refine eO fun K12 hk12 => ?_;refine tC 2 F1 ?_;refine tS 1 F1 ?_;refine Or.inl (Or.inr (Or.inl ⟨_, _, _, k2 _, ?_⟩));refine tZ F1 ?_;refine hk12 _ ?_;refine hn11 (some ([1,3,6,10], none)) _ ?_;refine eS fun K13 hn13 hr13 he13 => ?_;refine eD [] (n := 12) fun K14 hk14 => ?_;refine sq0 ?_;refine fC 2 F1 ?_;refine fC 2 F1 ?_;refine fC 2 F1 ?_;refine fC 2 F1 ?_;refine fC 1 F1 ?_;refine fC 1 F1 ?_;refine fC 1 F1 ?_;refine fL F1 ?_;refine ⟨_, k3, ?_⟩;refine hk14 _ ?_;refine sr0 ?_;refine tC 1 F1 ?_;refine tZ F1 ?_;refine hn13 (some ([3,6], none)) _ ?_;refine eS fun K16 hn16 hr16 he16 => ?_;refine eO fun K17 hk17 => ?_;refine tC 1 F1 ?_;refine tZ F1 ?_;refine hk17 _ ?_;refine hn16 (some ([6], none)) _ ?_
    exact sf1 F1
  · obtain ⟨z1, z2⟩ := hz h0
    subst z1
    subst z2
    have d : (R3 != 0) = true := by simpa using h0
    have k3' : Ok 103 [.agg (eTask y), .agg [sI 0, sU 0, sU 0, sB false]] (.agg (eTask z)) := k3
    unfold evFn sc_kgo rv_kgo
    have F1 := And.intro @q1 (And.intro @q3 (And.intro @hml (And.intro @hy (And.intro @hK (And.intro @d @hset)))))
    refine eS fun K1 hn1 hr1 he1 => ?_;refine eO fun K2 hk2 => ?_;refine tL F1 ?_;refine hk2 _ ?_;refine hn1 (some ([1,2,3,6], none)) _ ?_;refine eS fun K3 hn3 hr3 he3 => ?_;refine eO fun K4 hk4 => ?_;refine tC 2 F1 ?_;refine tC 2 F1 ?_;refine tC 1 F1 ?_;refine tC 1 F1 ?_;refine tS 1 F1 ?_;refine Or.inl (Or.inl ⟨_, k0, ?_⟩);refine tC 5 F1 ?_;refine tL F1 ?_;refine hk4 _ ?_;refine hn3 (some ([1,2,3,6,7], none)) _ ?_;refine eS fun K5 hn5 hr5 he5 => ?_;refine eO fun K6 hk6 => ?_;refine tC 2 F1 ?_;refine tC 2 F1 ?_;refine tS 1 F1 ?_;refine tS 1 F1 ?_;refine Or.inl (Or.inl ⟨_, k1, ?_⟩);refine tC 7 F1 ?_;refine tC 1 F1 ?_;refine tL F1 ?_;refine hk6 _ ?_;refine hn5 (some ([1,3,6,9,10,11], none)) _ ?_;refine eS fun K7 hn7 hr7 he7 => ?_;refine eS fun K8 hn8 hr8 he8 => ?_;refine eO fun K9 hk9 => ?_;refine tZ F1 ?_;refine hk9 _ ?_;refine hn8 (some ([1,3,6,9,10,33], none)) _ ?_;refine eCt ?_;refine eO fun K10 hk10 => ?_
    refine tZ F1 ?_;refine hk10 _ ?_;refine hn7 (some ([1,3,6,10], none)) _ ?_;refine eS fun K11 hn11 hr11 he11 => ?_;refine eO fun K12 hk12 => ?_;refine tC 2 F1 ?_;refine tS 1 F1 ?_;refine Or.inl (Or.inr (Or.inl ⟨_, _, _, k2 _, ?_⟩));refine tZ F1 ?_;refine hk12 _ ?_;refine hn11 (some ([1,3,6,10], none)) _ ?_;refine eS fun K13 hn13 hr13 he13 => ?_;refine eD [] (n := 12) fun K14 hk14 => ?_;refine sq0 ?_;refine fC 2 F1 ?_;refine fC 2 F1 ?_;refine fC 2 F1 ?_;refine fC 2 F1 ?_;refine fC 1 F1 ?_;refine fC 1 F1 ?_;refine fC 1 F1 ?_;refine fL F1 ?_;refine ⟨_, k3', ?_⟩;refine hk14 _ ?_;refine sr0 ?_;refine tC 1 F1 ?_;refine tZ F1 ?_;refine hn13 (some ([3,6], none)) _ ?_;refine eS fun K16 hn16 hr16 he16 => ?_;refine eO fun K17 hk17 => ?_;refine tC 1 F1 ?_;refine tZ F1 ?_;refine hk17 _ ?_;refine hn16 (some ([6], none)) _ ?_
    exact sf1 F1
set_option maxHeartbeats 2000000 in
theorem ok_khalt {C : Coder} (w : WorldM C) (t : Int) {n : Nat} (h : WorldOk w n) (ht : takesM w t = true) : Ok 72 [eWorld w, sI t] (eWorld (haltM w t)) := by
  refine ok_of_tr Try.func72 tr_khalt rfl ?_
  obtain ⟨m, y, rfl, hy, hl, _⟩ := takes_spec ht
  have hK := shK C
  have h8 := worldOk_eight h
  have hml := (List.getElem?_eq_some_iff.1 hy).1
  have hst := h.stops
  have q1 : IntKind.i64.wrap ((m : Int) + 1 - 1) = (m : Int) := by rw [IntKind.wrap_i64]; omega
  have q2 : w.tasks.length ≤ 1000000 := by omega
  have q3 : w.tasks.length * 1 ≤ 140737488355328 := by omega
  have em : ((m : Int) + 1 - 1).toNat = m := by omega
  have e1 : (w.stopped.map eBl).take w.tasks.length = w.stopped.map eBl := by rw [List.take_of_length_le (by simp; omega)]
  have e2 : (List.replicate w.tasks.length [Sh.v (.bool false)]).drop w.stopped.length = [] := by simp; omega
  have e3 : (w.stopped.map eBl).set m [sB true] = (w.stopped.set m true).map eBl := by rw [List.map_set]
  obtain ⟨b, hb⟩ : ∃ b, w.stopped[m]? = some b := ⟨_, List.getElem?_eq_getElem (by omega)⟩
  have q4 : m < w.stopped.length := by omega
  unfold haltM
  rw [em]
  unfold evFn sc_khalt rv_khalt
  have F1 := And.intro @q1 (And.intro @q2 (And.intro @q3 (And.intro @q4 (And.intro @e1 (And.intro @e2 (And.intro @hb @e3))))))
  refine eS fun _ hn1 _ _ => ?_;refine eO fun _ hk2 => ?_;refine tL F1 ?_;refine hk2 _ ?_;refine hn1 (some ([1,2,4], none)) _ ?_;refine eS fun _ hn3 _ _ => ?_;refine eO fun _ hk4 => ?_;refine tC 2 F1 ?_;refine tC 2 F1 ?_;refine tL F1 ?_;refine hk4 _ ?_;refine hn3 (some ([1,2,4,5], none)) _ ?_;refine eS fun _ hn5 _ _ => ?_;refine eO fun _ hk6 => ?_;refine tC 3 F1 ?_;refine tZ F1 ?_;refine hk6 _ ?_;refine hn5 (some ([1,2,4,5], none)) _ ?_;refine eS fun _ hn7 _ _ => ?_;refine eO fun _ hk8 => ?_;refine tC 3 F1 ?_;refine tC 1 F1 ?_;refine tZ F1 ?_;refine hk8 _ ?_;refine hn7 (some ([2,4,5], none)) _ ?_;refine eS fun _ hn9 _ _ => ?_;refine eO fun _ hk10 => ?_;refine tZ F1 ?_;refine hk10 _ ?_;refine hn9 (some ([2,4], none)) _ ?_;refine eS fun _ hn11 _ _ => ?_;refine eO fun _ hk12 => ?_;refine tC 1 F1 ?_;refine tZ F1 ?_;refine hk12 _ ?_;refine hn11 (some ([4], none)) _ ?_
  exact sf1 F1
set_option maxHeartbeats 2000000 in
theorem ok_kStep {C : Coder} [CoRuns C] (w : WorldM C) (p : PickV) {n : Nat} (h : WorldOk w n) (hn : n ≤ 900) : Ok 29 [eWorld w, .agg (ePick p)] (.tup [eWorld (stepM w p).1, sB (stepM w p).2]) := by
  refine ok_of_tr Try.func29 tr_kStep rfl ?_
  have k0 := ok_kDead w
  have h8 := worldOk_eight h
  obtain ⟨kd, th, ch⟩ := p
  unfold stepM
  simp only
  cases hd : deadM w
  case true =>
    rw [hd] at k0
    rw [if_pos rfl]
    unfold evFn sc_kStep rv_kStep
    refine eS fun K1 hn1 hr1 he1 => ?_;refine eO fun K2 hk2 => ?_;refine tL0 ?_;refine hk2 _ ?_;refine hn1 (some ([2,3,4], none)) _ ?_;refine eS fun K3 hn3 hr3 he3 => ?_;refine eB fun K4 hn4 hx4 hr4 he4 => ?_;refine eS fun K5 hn5 hr5 he5 => ?_;refine eO fun K6 hk6 => ?_;refine tC0 1 ?_;refine tS0 1 ?_;refine Or.inl (Or.inl ⟨_, k0, ?_⟩);refine tL0 ?_;refine hk6 _ ?_;refine hn5 (some ([2,3,4,6], none)) _ ?_;refine eCt ?_;refine hn4 _ ?_;refine hn3 (some ([2,4], none)) _ ?_;refine eS fun K7 hn7 hr7 he7 => ?_;refine eO fun K8 hk8 => ?_;refine tC0 1 ?_;refine tC0 1 ?_;refine tL0 ?_;refine hk8 _ ?_;refine hn7 (some ([4,5], none)) _ ?_
    exact sf0
  rw [hd] at k0
  rw [if_neg (by simp)]
  by_cases h2 : kd = 2
  · subst h2
    rw [if_pos rfl]
    have k1 := ok_cCrash w.m ch h.mach hn
    generalize crashM w.m ch = Q at k1 ⊢
    unfold evFn sc_kStep rv_kStep
    refine eS fun K1 hn1 hr1 he1 => ?_;refine eO fun K2 hk2 => ?_;refine tL0 ?_;refine hk2 _ ?_;refine hn1 (some ([2,3,4], none)) _ ?_;refine eS fun K3 hn3 hr3 he3 => ?_;refine eB fun K4 hn4 hx4 hr4 he4 => ?_;refine eS fun K5 hn5 hr5 he5 => ?_;refine eO fun K6 hk6 => ?_;refine tC0 1 ?_;refine tS0 1 ?_;refine Or.inl (Or.inl ⟨_, k0, ?_⟩);refine tL0 ?_;refine hk6 _ ?_;refine hn5 (some ([2,3,4,6], none)) _ ?_;refine eCf ?_;refine eS fun K7 hn7 hr7 he7 => ?_;refine eO fun K8 hk8 => ?_;refine tC0 2 ?_;refine tC0 1 ?_;refine tL0 ?_;refine hk8 _ ?_;refine hn7 (some ([2,3,4,9], none)) _ ?_;refine eCt ?_;refine eS fun K9 hn9 hr9 he9 => ?_;refine eO fun K10 hk10 => ?_;refine tC0 2 ?_;refine tC0 2 ?_;refine tS0 1 ?_;refine Or.inl (Or.inl ⟨_, k1, ?_⟩);refine tC0 2 ?_;refine tL0 ?_;refine hk10 _ ?_;refine hn9 (some ([4,5], none)) _ ?_;refine hr4 _ ?_;refine hr3 _ ?_
    exact sf0
  rw [if_neg h2]
  have d2 : (kd == 2) = false := by simpa using h2
  have k2 := ok_kTakes w th h8
  cases ht : takesM w th
  · rw [ht] at k2
    rw [if_pos rfl]
    unfold evFn sc_kStep rv_kStep
    have F1 := @d2
    refine eS fun K1 hn1 hr1 he1 => ?_;refine eO fun K2 hk2 => ?_;refine tL F1 ?_;refine hk2 _ ?_;refine hn1 (some ([2,3,4], none)) _ ?_;refine eS fun K3 hn3 hr3 he3 => ?_;refine eB fun K4 hn4 hx4 hr4 he4 => ?_;refine eS fun K5 hn5 hr5 he5 => ?_;refine eO fun K6 hk6 => ?_;refine tC 1 F1 ?_;refine tS 1 F1 ?_;refine Or.inl (Or.inl ⟨_, k0, ?_⟩);refine tL F1 ?_;refine hk6 _ ?_;refine hn5 (some ([2,3,4,6], none)) _ ?_;refine eCf ?_;refine eS fun K7 hn7 hr7 he7 => ?_;refine eO fun K8 hk8 => ?_;refine tC 2 F1 ?_;refine tC 1 F1 ?_;refine tL F1 ?_;refine hk8 _ ?_;refine hn7 (some ([2,3,4,9], none)) _ ?_;refine eCf ?_;refine eS fun K9 hn9 hr9 he9 => ?_;refine eO fun K10 hk10 => ?_;refine tC 1 F1 ?_;refine tC 2 F1 ?_;refine tS 1 F1 ?_;refine Or.inl (Or.inl ⟨_, k2, ?_⟩);refine tL F1 ?_;refine hk10 _ ?_;refine hn9 (some ([2,3,4,19], none)) _ ?_;refine eCt ?_;refine hn4 _ ?_;refine hn3 (some ([2,4], none)) _ ?_
    refine eS fun K11 hn11 hr11 he11 => ?_;refine eO fun K12 hk12 => ?_;refine tC 1 F1 ?_;refine tC 1 F1 ?_;refine tL F1 ?_;refine hk12 _ ?_;refine hn11 (some ([4,5], none)) _ ?_
    exact sf1 F1
  rw [ht] at k2
  rw [if_neg (by simp)]
  by_cases h0 : kd = 0
  · subst h0
    rw [if_pos rfl]
    have k3 := ok_kgo w th ch h hn ht
    generalize goM w th ch = Q at k3 ⊢
    unfold evFn sc_kStep rv_kStep
    have F1 := @d2
    refine eS fun K1 hn1 hr1 he1 => ?_;refine eO fun K2 hk2 => ?_;refine tL F1 ?_;refine hk2 _ ?_;refine hn1 (some ([2,3,4], none)) _ ?_;refine eS fun K3 hn3 hr3 he3 => ?_;refine eB fun K4 hn4 hx4 hr4 he4 => ?_;refine eS fun K5 hn5 hr5 he5 => ?_;refine eO fun K6 hk6 => ?_;refine tC 1 F1 ?_;refine tS 1 F1 ?_;refine Or.inl (Or.inl ⟨_, k0, ?_⟩);refine tL F1 ?_;refine hk6 _ ?_;refine hn5 (some ([2,3,4,6], none)) _ ?_;refine eCf ?_;refine eS fun K7 hn7 hr7 he7 => ?_;refine eO fun K8 hk8 => ?_;refine tC 2 F1 ?_;refine tC 1 F1 ?_;refine tL F1 ?_;refine hk8 _ ?_;refine hn7 (some ([2,3,4,9], none)) _ ?_;refine eCf ?_;refine eS fun K9 hn9 hr9 he9 => ?_;refine eO fun K10 hk10 => ?_;refine tC 1 F1 ?_;refine tC 2 F1 ?_;refine tS 1 F1 ?_;refine Or.inl (Or.inl ⟨_, k2, ?_⟩);refine tL F1 ?_;refine hk10 _ ?_;refine hn9 (some ([2,3,4,19], none)) _ ?_;refine eCf ?_;refine eS fun K11 hn11 hr11 he11 => ?_;refine eO fun K12 hk12 => ?_
    refine tC 2 F1 ?_;refine tC 1 F1 ?_;refine tL F1 ?_;refine hk12 _ ?_;refine hn11 (some ([2,3,4,25], none)) _ ?_;refine eCt ?_;refine eS fun K13 hn13 hr13 he13 => ?_;refine eO fun K14 hk14 => ?_;refine tC 1 F1 ?_;refine tC 2 F1 ?_;refine tC 2 F1 ?_;refine tS 1 F1 ?_;refine Or.inl (Or.inl ⟨_, k3, ?_⟩);refine tC 1 F1 ?_;refine tL F1 ?_;refine hk14 _ ?_;refine hn13 (some ([4,5], none)) _ ?_;refine hr4 _ ?_;refine hr3 _ ?_
    exact sf1 F1
  rw [if_neg h0]
  have d0 : (kd == 0) = false := by simpa using h0
  by_cases h1 : kd = 1
  · subst h1
    rw [if_pos rfl]
    have k4 := ok_khalt w th h ht
    generalize haltM w th = Q at k4 ⊢
    unfold evFn sc_kStep rv_kStep
    have F1 := And.intro @d2 @d0
    refine eS fun K1 hn1 hr1 he1 => ?_;refine eO fun K2 hk2 => ?_;refine tL F1 ?_;refine hk2 _ ?_;refine hn1 (some ([2,3,4], none)) _ ?_;refine eS fun K3 hn3 hr3 he3 => ?_;refine eB fun K4 hn4 hx4 hr4 he4 => ?_;refine eS fun K5 hn5 hr5 he5 => ?_;refine eO fun K6 hk6 => ?_;refine tC 1 F1 ?_;refine tS 1 F1 ?_;refine Or.inl (Or.inl ⟨_, k0, ?_⟩);refine tL F1 ?_;refine hk6 _ ?_;refine hn5 (some ([2,3,4,6], none)) _ ?_;refine eCf ?_;refine eS fun K7 hn7 hr7 he7 => ?_;refine eO fun K8 hk8 => ?_;refine tC 2 F1 ?_;refine tC 1 F1 ?_;refine tL F1 ?_;refine hk8 _ ?_;refine hn7 (some ([2,3,4,9], none)) _ ?_;refine eCf ?_;refine eS fun K9 hn9 hr9 he9 => ?_;refine eO fun K10 hk10 => ?_;refine tC 1 F1 ?_;refine tC 2 F1 ?_;refine tS 1 F1 ?_;refine Or.inl (Or.inl ⟨_, k2, ?_⟩);refine tL F1 ?_;refine hk10 _ ?_;refine hn9 (some ([2,3,4,19], none)) _ ?_;refine eCf ?_;refine eS fun K11 hn11 hr11 he11 => ?_;refine eO fun K12 hk12 => ?_
    refine tC 2 F1 ?_;refine tC 1 F1 ?_;refine tL F1 ?_;refine hk12 _ ?_;refine hn11 (some ([2,3,4,25], none)) _ ?_;refine eCf ?_;refine eS fun K13 hn13 hr13 he13 => ?_;refine eO fun K14 hk14 => ?_;refine tC 2 F1 ?_;refine tC 1 F1 ?_;refine tL F1 ?_;refine hk14 _ ?_;refine hn13 (some ([2,3,4,35], none)) _ ?_;refine eCt ?_;refine eS fun K15 hn15 hr15 he15 => ?_;refine eO fun K16 hk16 => ?_;refine tC 1 F1 ?_;refine tC 2 F1 ?_;refine tS 1 F1 ?_;refine Or.inl (Or.inl ⟨_, k4, ?_⟩);refine tC 1 F1 ?_;refine tL F1 ?_;refine hk16 _ ?_;refine hn15 (some ([4,5], none)) _ ?_;refine hr4 _ ?_;refine hr3 _ ?_
    exact sf1 F1
  rw [if_neg h1]
  have d1 : (kd == 1) = false := by simpa using h1
  unfold evFn sc_kStep rv_kStep
  have F1 := And.intro @d2 (And.intro @d0 @d1)
  refine eS fun K1 hn1 hr1 he1 => ?_;refine eO fun K2 hk2 => ?_;refine tL F1 ?_;refine hk2 _ ?_;refine hn1 (some ([2,3,4], none)) _ ?_;refine eS fun K3 hn3 hr3 he3 => ?_;refine eB fun K4 hn4 hx4 hr4 he4 => ?_;refine eS fun K5 hn5 hr5 he5 => ?_;refine eO fun K6 hk6 => ?_;refine tC 1 F1 ?_;refine tS 1 F1 ?_;refine Or.inl (Or.inl ⟨_, k0, ?_⟩);refine tL F1 ?_;refine hk6 _ ?_;refine hn5 (some ([2,3,4,6], none)) _ ?_;refine eCf ?_;refine eS fun K7 hn7 hr7 he7 => ?_;refine eO fun K8 hk8 => ?_;refine tC 2 F1 ?_;refine tC 1 F1 ?_;refine tL F1 ?_;refine hk8 _ ?_;refine hn7 (some ([2,3,4,9], none)) _ ?_;refine eCf ?_;refine eS fun K9 hn9 hr9 he9 => ?_;refine eO fun K10 hk10 => ?_;refine tC 1 F1 ?_;refine tC 2 F1 ?_;refine tS 1 F1 ?_;refine Or.inl (Or.inl ⟨_, k2, ?_⟩);refine tL F1 ?_;refine hk10 _ ?_;refine hn9 (some ([2,3,4,19], none)) _ ?_;refine eCf ?_;refine eS fun K11 hn11 hr11 he11 => ?_;refine eO fun K12 hk12 => ?_
  refine tC 2 F1 ?_;refine tC 1 F1 ?_;refine tL F1 ?_;refine hk12 _ ?_;refine hn11 (some ([2,3,4,25], none)) _ ?_;refine eCf ?_;refine eS fun K13 hn13 hr13 he13 => ?_;refine eO fun K14 hk14 => ?_;refine tC 2 F1 ?_;refine tC 1 F1 ?_;refine tL F1 ?_;refine hk14 _ ?_;refine hn13 (some ([2,3,4,35], none)) _ ?_;refine eCf ?_;refine hn4 _ ?_;refine hn3 (some ([2,4], none)) _ ?_;refine eS fun K15 hn15 hr15 he15 => ?_;refine eO fun K16 hk16 => ?_;refine tC 1 F1 ?_;refine tC 1 F1 ?_;refine tL F1 ?_;refine hk16 _ ?_;refine hn15 (some ([4,5], none)) _ ?_
  exact sf1 F1
noncomputable def runW {C : Coder} (w : WorldM C) (l : List PickV) : WorldM C := l.foldl (fun w p => (stepM w p).1) w
theorem runW_app {C : Coder} (w : WorldM C) (a b : List PickV) : runW w (a ++ b) = runW (runW w a) b := List.foldl_append
theorem runOk {C : Coder} : ∀ (l : List PickV) {w : WorldM C} {n : Nat}, WorldOk w n → WorldOk (runW w l) (n + l.length)
  | [], _, _, h => h
  | p :: l, w, n, h => by
    have := runOk l (stepOk h p)
    rw [List.length_cons, show n + (l.length + 1) = n + 1 + l.length by omega]
    exact this
abbrev boxW {C : Coder} (w : WorldM C) : Ob := .box 85 (cWorld w)
noncomputable def goesM {C : Coder} (w : WorldM C) (t : Int) : Nat → WorldM C
  | 0 => w
  | n + 1 => if (stepM w ⟨0, t, 0⟩).2 = true then goesM (stepM w ⟨0, t, 0⟩).1 t n else w
theorem goes_succ {C : Coder} {w : WorldM C} {t : Int} : ∀ {n : Nat}, goesM w t (n + 1) = if (stepM (goesM w t n) ⟨0, t, 0⟩).2 = true then (stepM (goesM w t n) ⟨0, t, 0⟩).1 else goesM w t n
  | 0 => rfl
  | n + 1 => by
    unfold goesM
    by_cases h : (stepM w ⟨0, t, 0⟩).2 = true
    · rw [if_pos h, if_pos h]
      exact goes_succ (w := (stepM w ⟨0, t, 0⟩).1) (n := n)
    · rw [if_neg h, if_neg h]
      rw [if_neg h]
theorem goesOk {C : Coder} (t : Int) : ∀ (k : Nat) {w : WorldM C} {n : Nat}, WorldOk w n → WorldOk (goesM w t k) (n + k)
  | 0, _, _, h => h
  | k + 1, w, n, h => by
    unfold goesM
    split
    · have := goesOk t k (stepOk h ⟨0, t, 0⟩)
      rw [show n + (k + 1) = n + 1 + k by omega]
      exact this
    · exact worldOk_up h (by omega)
noncomputable def aloneM {C : Coder} (w : WorldM C) (t most : Int) : WorldM C × Bool :=
  if t < 1 ∨ (w.tasks.length : Int) < t ∨ stoppedM w (t - 1).toNat = true then (w, false)
  else (goesM w t most.toNat, !(liveAt (goesM w t most.toNat) (t - 1).toNat))
end Go.Proofs.Ytenbagffdlljdaa
