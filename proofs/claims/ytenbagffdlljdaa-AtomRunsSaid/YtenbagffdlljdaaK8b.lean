/-
  Layer 8 by shadows: worlds.
-/
import Derived.Test.YtenbagffdlljdaaK8a
import Derived.Test.YtenbagffdlljdaaMC
namespace Go.Proofs.Ytenbagffdlljdaa
set_option linter.unusedSimpArgs false
set_option linter.unusedVariables false
open Go.RowKit Go.Maps
theorem size_do {M : MachM} {n : Nat} (hM : MachOk M n) (t : Int) (a : ActM) (c : Int) : (doM M t a c).1.mem.views.length = M.mem.views.length ∧ (doM M t a c).1.mem.places.length = M.mem.places.length := by
  unfold doM
  split
  · rename_i h
    obtain ⟨_, _, h1, h2, _⟩ := machOk_act hM c h
    exact ⟨h1, h2⟩
  · exact ⟨rfl, rfl⟩
structure WorldM (C : Coder) where
  m : MachM
  tasks : List (TaskM C)
  stopped : List Bool
abbrev eBl (b : Bool) : List Sh := [sB b]
abbrev cWorld {C : Coder} (w : WorldM C) : List Sh := [.sl 1 0 (w.m.mem.places.map ePlace), .sl 1 0 (w.m.mem.views.map eV1), .sl 3 0 (w.m.lines.first.map eWord), .sl 2 0 (w.m.lines.logs.map eLog), .mp 3 fun t => (w.m.lines.asks t).map eAsked, .sl 1 0 (w.m.steps.map eSt), sI w.m.crashes, .sl 11 0 (w.tasks.map eTask), .sl 1 0 (w.stopped.map eBl)]
abbrev eWorld {C : Coder} (w : WorldM C) : Sh := .agg (cWorld w)
abbrev zCells : List Sh := [.sl 1 0 [], .sl 1 0 [], .sl 3 0 [], .sl 2 0 [], .mp 3 fun _ => none, .sl 1 0 [], sI 0, .sl 11 0 [], .sl 1 0 []]
def zWorld (C : Coder) : WorldM C := ⟨zMach, [], []⟩
structure WorldOk {C : Coder} (w : WorldM C) (n : Nat) : Prop where
  mach : MachOk w.m n
  few : w.tasks.length ≤ w.m.mem.views.length
  stops : w.stopped.length = w.tasks.length
  task : ∀ t ∈ w.tasks, TaskOk t n
theorem taskOk_up {C : Coder} {t : TaskM C} {n k : Nat} (h : TaskOk t n) (hk : n ≤ k) : TaskOk t k := ⟨Nat.le_trans h.gots hk, h.code, fun s hs => C.up (h.good s hs) hk⟩
theorem worldOk_up {C : Coder} {w : WorldM C} {n k : Nat} (h : WorldOk w n) (hk : n ≤ k) : WorldOk w k := ⟨machOk_up h.mach hk, h.few, h.stops, fun t ht => taskOk_up (h.task t ht) hk⟩
theorem worldOk_eight {C : Coder} {w : WorldM C} {n : Nat} (h : WorldOk w n) : w.tasks.length ≤ 8 := Nat.le_trans h.few h.mach.mem.vl
abbrev eC1 (C : Coder) (s : C.St) : List Sh := [eCode C (some s)]
def makeM {C : Coder} (m : MachM) (cs : List C.St) : WorldM C × Int := if (m.mem.views.length : Int) < (cs.length : Int) then (zWorld C, 15) else (⟨m, cs.map startM, List.replicate cs.length false⟩, 0)
def MkInv {C : Coder} (m : MachM) (g : Nat) (cs : List C.St) (k : Nat) (S : St) : Prop :=
  ∃ i : Nat, i ≤ cs.length ∧ k = cs.length - i ∧ S = ⟨[(4, .ptr 0 0 0), (8, .ptr 1 0 0), (26, .sl 1 g (cs.map (eC1 C))), (27, sI cs.length), (28, sI i)],
    [(0, .box 85 zCells), (1, .box 85 [.sl 1 0 (m.mem.places.map ePlace), .sl 1 0 (m.mem.views.map eV1), .sl 3 0 (m.lines.first.map eWord), .sl 2 0 (m.lines.logs.map eLog), .mp 3 fun t => (m.lines.asks t).map eAsked, .sl 1 0 (m.steps.map eSt), sI m.crashes, .own 2, .sl 1 0 ((List.replicate cs.length false).map eBl)]),
     (2, .row 106 11 (((cs.take i).map startM).map eTask))], 3⟩
set_option maxHeartbeats 4000000 in
theorem ok_kMake {C : Coder} [CoRuns C] (m : MachM) (g : Nat) (cs : List C.St) (hv : m.mem.views.length ≤ 8) {n : Nat} (hc : ∀ s ∈ cs, C.good n s) (hn : n ≤ 900) : Ok 68 [eMach m, .sl 1 g (cs.map (eC1 C))] (.tup [eWorld (makeM m cs).1, sI (makeM m cs).2]) := by
  refine ok_of_tr Try.func68 tr_kMake rfl ?_
  have hK := shK C
  have k0 := ok_cSize m
  unfold makeM
  by_cases h : (m.mem.views.length : Int) < (cs.length : Int)
  · rw [if_pos h]
    unfold evFn sc_kMake rv_kMake
    have F1 := @h
    refine eS fun K1 hn1 hr1 he1 => ?_;refine eO fun K2 hk2 => ?_;refine tL F1 ?_;refine hk2 _ ?_;refine hn1 (some ([1,2,4], none)) _ ?_;refine eS fun K3 hn3 hr3 he3 => ?_;refine eS fun K4 hn4 hr4 he4 => ?_;refine eO fun K5 hk5 => ?_;refine tC 1 F1 ?_;refine tS 1 F1 ?_;refine Or.inl (Or.inl ⟨_, k0, ?_⟩);refine tL F1 ?_;refine hk5 _ ?_;refine hn4 (some ([1,2,4,6], none)) _ ?_;refine eS fun K6 hn6 hr6 he6 => ?_;refine eO fun K7 hk7 => ?_;refine tZ F1 ?_;refine hk7 _ ?_;refine hn6 (some ([1,2,4,19], none)) _ ?_;refine eCt ?_;refine eS fun K8 hn8 hr8 he8 => ?_;refine eO fun K9 hk9 => ?_;refine tC 2 F1 ?_;refine tL F1 ?_;refine hk9 _ ?_;refine hn8 (some ([4,5], none)) _ ?_;refine hr3 _ ?_;refine sg1 F1 ?_
    rfl
  rw [if_neg h]
  have q1 : cs.length ≤ 1000000 := by omega
  have q2 : cs.length * 1 ≤ 140737488355328 := by omega
  have e1 : List.replicate cs.length [Sh.v (.bool false)] = (List.replicate cs.length false).map eBl := by simp
  unfold evFn sc_kMake rv_kMake
  have F1 := And.intro @h (And.intro @q1 (And.intro @q2 (And.intro @hK @e1)))
  refine eS fun K1 hn1 hr1 he1 => ?_;refine eO fun K2 hk2 => ?_;refine tL F1 ?_;refine hk2 _ ?_;refine hn1 (some ([1,2,4], none)) _ ?_;refine eS fun K3 hn3 hr3 he3 => ?_;refine eS fun K4 hn4 hr4 he4 => ?_;refine eO fun K5 hk5 => ?_;refine tC 1 F1 ?_;refine tS 1 F1 ?_;refine Or.inl (Or.inl ⟨_, k0, ?_⟩);refine tL F1 ?_;refine hk5 _ ?_;refine hn4 (some ([1,2,4,6], none)) _ ?_;refine eS fun K6 hn6 hr6 he6 => ?_;refine eO fun K7 hk7 => ?_;refine tZ F1 ?_;refine hk7 _ ?_;refine hn6 (some ([1,2,4,19], none)) _ ?_;refine eCf ?_;refine hn3 (some ([1,2,4], none)) _ ?_;refine eS fun K8 hn8 hr8 he8 => ?_;refine eD [] (n := 6) fun K9 hk9 => ?_;refine sq0 ?_;refine fC 1 F1 ?_;refine fC 3 F1 ?_;refine fL F1 ?_;refine hk9 _ ?_;refine sr0 ?_;refine tZ F1 ?_;refine hn8 (some ([1,4,8], none)) _ ?_;refine eS fun _ hn11 _ _ => ?_;refine eS fun _ hn12 _ _ => ?_;refine eO fun _ hk13 => ?_;refine tL F1 ?_;refine hk13 _ ?_
  refine hn12 (some ([4,8,26,27,28], none)) _ ?_;refine eB fun _ _ hx14 _ _ => ?_;refine eW (MkInv m g cs) (cs.length) (some ([4,8,26,27,28], some ([1,2,3], 3))) ([.cell 2 7 (some 106) 11]) ?_ ?_
  · try refine lp0 ?_
    exact ⟨0, by omega, by omega, by rfl⟩
  · intro k S1 hI
    obtain ⟨i, hi, rfl, rfl⟩ := hI
    have hcase : i = cs.length ∨ i < cs.length := by omega
    intro _ hn15 _ he15
    rcases hcase with hcc | hcc
    · skip
      have w2 : ¬ (i : Int) < (cs.length : Int) := by omega
      have w3 : cs.take i = cs := by rw [List.take_of_length_le (by omega)]
      have F2 := And.intro F1 (And.intro @w2 @w3)
      refine eS fun _ hn16 _ _ => ?_;refine eO fun _ hk17 => ?_;refine tZ F2 ?_;refine hk17 _ ?_;refine hn16 (some ([4,8,26,27,28,29], none)) _ ?_;refine eS fun _ _ _ he18 => ?_;refine eCf ?_;refine he18 0 _ ?_;refine he15 0 _ ?_;refine hx14 _ ?_;refine hn11 (some ([4,8], none)) _ ?_;refine eS fun _ hn19 _ _ => ?_;refine eO fun _ hk20 => ?_;refine tC 1 F2 ?_;refine tC 1 F2 ?_;refine tL F2 ?_;refine hk20 _ ?_;refine hn19 (some ([4,5], none)) _ ?_
      exact sf1 F2
    · skip
      skip
      have w2 : (i : Int) < (cs.length : Int) := by omega
      have w3 : IntKind.i64.wrap ((i : Int) + 1) = ((i + 1 : Nat) : Int) := by rw [IntKind.wrap_i64]; omega
      obtain ⟨s, hs⟩ : ∃ s, cs[i]? = some s := ⟨_, List.getElem?_eq_getElem hcc⟩
      have w4 : ((cs.take i).map startM).length = i := by simp; omega
      have w5 : (i + 1) * 96 ≤ 140737488355328 := by omega
      have w6 : (cs.take i).length = i := by simp; omega
      have k1 := ok_kStart s (hc s (List.mem_of_getElem? hs)) hn
      have w7 : (((cs.take (i + 1)).map startM).map eTask) = ((cs.take i).map startM).map eTask ++ [eTask (startM s)] := by
        rw [show cs.take (i + 1) = cs.take i ++ [s] from by rw [List.take_add_one, hs]; rfl, List.map_append, List.map_append]; rfl
      generalize startM s = ts at k1 w7
      have F3 := And.intro F1 (And.intro @w2 (And.intro @w3 (And.intro @w4 (And.intro @w5 (And.intro @w6 @hs)))))
      refine eS fun _ hn21 _ _ => ?_;refine eO fun _ hk22 => ?_;refine tZ F3 ?_;refine hk22 _ ?_;refine hn21 (some ([4,8,26,27,28,29], none)) _ ?_;refine eS fun _ hn23 _ _ => ?_;refine eCt ?_;refine hn23 (some ([4,8,26,27,28], none)) _ ?_;refine eS fun _ hn24 _ _ => ?_;refine eB fun _ hn25 _ _ _ => ?_;refine eS fun _ hn26 _ _ => ?_;refine eO fun _ hk27 => ?_;refine tC 1 F3 ?_;refine tC 1 F3 ?_;refine tL F3 ?_;refine hk27 _ ?_;refine hn26 (some ([4,8,10,26,27,28], none)) _ ?_;refine eD [] (n := 5) fun _ hk28 => ?_;refine sq0 ?_;refine fC 2 F3 ?_;refine fS 1 F3 ?_;refine fS 1 F3 ?_;refine ⟨_, k1, ?_⟩;refine fZ F3 ?_;refine hk28 _ ?_;refine sr0 ?_;refine tC 1 F3 ?_;refine tZ F3 ?_;refine hn25 _ ?_;refine hn24 (some ([4,8,26,27,28], none)) _ ?_;refine eO fun _ hk30 => ?_;refine tC 1 F3 ?_;refine tL F3 ?_;refine hk30 _ ?_;refine hn15 (cs.length - (i + 1)) (some ([4,8,26,27,28], some ([0,1,3], 3))) _ ?_ ?_
      all_goals try refine lp0 ?_
      · omega
      · exact ⟨i + 1, by omega, by omega, by rw [w7]⟩
def stoppedM {C : Coder} (w : WorldM C) (i : Nat) : Bool := (w.stopped[i]?).getD false
theorem ok_kStopped {C : Coder} (w : WorldM C) (i : Nat) (hi : i ≤ 1000000) : Ok 97 [eWorld w, sI i] (sB (stoppedM w i)) := by
  refine ok_of_tr Try.func97 tr_kStopped rfl ?_
  unfold stoppedM
  by_cases h : i < w.stopped.length
  · have h1 : (i : Int) < (w.stopped.length : Int) := by omega
    have h2 := List.getElem?_eq_getElem h
    generalize w.stopped[i] = b at h2
    rw [h2]
    unfold evFn sc_kStopped rv_kStopped
    have F1 := And.intro @h1 @h2
    refine eS fun K1 hn1 hr1 he1 => ?_;refine eO fun K2 hk2 => ?_;refine tL F1 ?_;refine hk2 _ ?_;refine hn1 (some ([1,2], none)) _ ?_;refine eS fun K3 hn3 hr3 he3 => ?_;refine eO fun K4 hk4 => ?_;refine tC 3 F1 ?_;refine tC 2 F1 ?_;refine tC 3 F1 ?_;refine tC 2 F1 ?_;refine tC 1 F1 ?_;refine tL F1 ?_;refine hk4 _ ?_;refine hn3 (some ([4], none)) _ ?_
    exact sf1 F1
  · have h1 : ¬ (i : Int) < (w.stopped.length : Int) := by omega
    rw [List.getElem?_eq_none (by omega)]
    unfold evFn sc_kStopped rv_kStopped
    have F1 := @h1
    refine eS fun K1 hn1 hr1 he1 => ?_;refine eO fun K2 hk2 => ?_;refine tL F1 ?_;refine hk2 _ ?_;refine hn1 (some ([1,2], none)) _ ?_;refine eS fun K3 hn3 hr3 he3 => ?_;refine eO fun K4 hk4 => ?_;refine tC 3 F1 ?_;refine tC 2 F1 ?_;refine tC 3 F1 ?_;refine tC 2 F1 ?_;refine tC 1 F1 ?_;refine tL F1 ?_;refine hk4 _ ?_;refine hn3 (some ([4], none)) _ ?_
    exact sf1 F1
def deadM {C : Coder} (w : WorldM C) : Bool := decide (w.m.mem.views.length = 0)
theorem ok_kDead {C : Coder} (w : WorldM C) : Ok 69 [eWorld w] (sB (deadM w)) := by
  refine ok_of_tr Try.func69 tr_kDead rfl ?_
  have e : deadM w = ((w.m.mem.views.length : Int) == 0) := by
    unfold deadM
    rw [Bool.eq_iff_iff]; simp
  rw [e]
  unfold evFn sc_kDead rv_kDead
  refine eS fun _ hn1 _ _ => ?_;refine eO fun _ hk2 => ?_;refine tL0 ?_;refine hk2 _ ?_;refine hn1 (some ([1], none)) _ ?_;refine eS fun _ hn3 _ _ => ?_;refine eO fun _ hk4 => ?_;refine tC0 2 ?_;refine tS0 1 ?_;refine Or.inl (Or.inl ⟨_, ok_cSize w.m, ?_⟩);refine tL0 ?_;refine hk4 _ ?_;refine hn3 (some ([3], none)) _ ?_;refine eS fun _ hn5 _ _ => ?_;refine eO fun _ hk6 => ?_;refine tC0 2 ?_;refine tL0 ?_;refine hk6 _ ?_;refine hn5 (some ([2], none)) _ ?_
  exact sf0
def liveAt {C : Coder} (w : WorldM C) (i : Nat) : Bool := ((w.tasks[i]?).map TaskM.live).getD false
def takesM {C : Coder} (w : WorldM C) (t : Int) : Bool := decide (1 ≤ t ∧ t ≤ (w.tasks.length : Int)) && (!(stoppedM w (t - 1).toNat) && liveAt w (t - 1).toNat)
set_option maxHeartbeats 2000000 in
theorem ok_kTakes {C : Coder} (w : WorldM C) (t : Int) (hl : w.tasks.length ≤ 8) : Ok 70 [eWorld w, sI t] (sB (takesM w t)) := by
  refine ok_of_tr Try.func70 tr_kTakes rfl ?_
  have hK := shK C
  unfold takesM
  by_cases h1 : 1 ≤ t
  case neg =>
    rw [show decide (1 ≤ t ∧ t ≤ (w.tasks.length : Int)) = false from decide_eq_false (fun h => h1 h.1), Bool.false_and]
    unfold evFn sc_kTakes rv_kTakes
    have F1 := And.intro @h1 @hK
    refine eS fun K1 hn1 hr1 he1 => ?_;refine eO fun K2 hk2 => ?_;refine tL F1 ?_;refine hk2 _ ?_;refine hn1 (some ([1,2], none)) _ ?_;refine eS fun K3 hn3 hr3 he3 => ?_;refine eO fun K4 hk4 => ?_;refine tC 2 F1 ?_;refine tC 4 F1 ?_;refine tC 2 F1 ?_;refine tC 3 F1 ?_;refine tC 2 F1 ?_;refine tS 1 F1 ?_
    skip
    refine tC 5 F1 ?_;refine tC 2 F1 ?_;refine tC 1 F1 ?_;refine tC 1 F1 ?_;refine tS 1 F1 ?_
    skip
    refine tL F1 ?_;refine hk4 _ ?_;refine hn3 (some ([4], none)) _ ?_
    exact sf1 F1
  by_cases h2 : t ≤ (w.tasks.length : Int)
  case neg =>
    rw [show decide (1 ≤ t ∧ t ≤ (w.tasks.length : Int)) = false from decide_eq_false (fun h => h2 h.2), Bool.false_and]
    unfold evFn sc_kTakes rv_kTakes
    have F1 := And.intro @h1 (And.intro @h2 @hK)
    refine eS fun K1 hn1 hr1 he1 => ?_;refine eO fun K2 hk2 => ?_;refine tL F1 ?_;refine hk2 _ ?_;refine hn1 (some ([1,2], none)) _ ?_;refine eS fun K3 hn3 hr3 he3 => ?_;refine eO fun K4 hk4 => ?_;refine tC 2 F1 ?_;refine tC 4 F1 ?_;refine tC 2 F1 ?_;refine tC 3 F1 ?_;refine tC 2 F1 ?_;refine tS 1 F1 ?_
    skip
    refine tC 5 F1 ?_;refine tC 2 F1 ?_;refine tC 1 F1 ?_;refine tC 1 F1 ?_;refine tS 1 F1 ?_
    skip
    refine tL F1 ?_;refine hk4 _ ?_;refine hn3 (some ([4], none)) _ ?_
    exact sf1 F1
  rw [show decide (1 ≤ t ∧ t ≤ (w.tasks.length : Int)) = true from decide_eq_true ⟨h1, h2⟩, Bool.true_and]
  obtain ⟨m, hm⟩ := Int.eq_ofNat_of_zero_le (show 0 ≤ t - 1 by omega)
  have q1 : IntKind.i64.wrap (t - 1) = (m : Int) := by rw [IntKind.wrap_i64]; omega
  have k0 := ok_kStopped w m (by omega)
  rw [hm, Int.toNat_natCast]
  obtain ⟨y, hy⟩ : ∃ y, w.tasks[m]? = some y := ⟨_, List.getElem?_eq_getElem (by omega)⟩
  have e1 : liveAt w m = y.live := by unfold liveAt; rw [hy]; rfl
  have k1 := ok_kDone y
  rw [e1]
  generalize y.live = b at k1
  cases hb : stoppedM w m
  · rw [hb] at k0
    have hn : (!!b) = b := by simp
    unfold evFn sc_kTakes rv_kTakes
    have F1 := And.intro @h1 (And.intro @h2 (And.intro @q1 (And.intro @hK (And.intro @hy @hn))))
    refine eS fun K1 hn1 hr1 he1 => ?_;refine eO fun K2 hk2 => ?_;refine tL F1 ?_;refine hk2 _ ?_;refine hn1 (some ([1,2], none)) _ ?_;refine eS fun K3 hn3 hr3 he3 => ?_;refine eO fun K4 hk4 => ?_;refine tC 2 F1 ?_;refine tC 4 F1 ?_;refine tC 2 F1 ?_;refine tC 3 F1 ?_;refine tC 2 F1 ?_;refine tS 1 F1 ?_;refine Or.inl (Or.inl ⟨_, k0, ?_⟩);refine tC 5 F1 ?_;refine tC 2 F1 ?_;refine tC 1 F1 ?_;refine tC 1 F1 ?_;refine tS 1 F1 ?_;refine Or.inl (Or.inl ⟨_, k1, ?_⟩);refine tL F1 ?_;refine hk4 _ ?_;refine hn3 (some ([4], none)) _ ?_
    exact sf1 F1
  · rw [hb] at k0
    unfold evFn sc_kTakes rv_kTakes
    have F1 := And.intro @h1 (And.intro @h2 (And.intro @q1 (And.intro @hK @hy)))
    refine eS fun K1 hn1 hr1 he1 => ?_;refine eO fun K2 hk2 => ?_;refine tL F1 ?_;refine hk2 _ ?_;refine hn1 (some ([1,2], none)) _ ?_;refine eS fun K3 hn3 hr3 he3 => ?_;refine eO fun K4 hk4 => ?_;refine tC 2 F1 ?_;refine tC 4 F1 ?_;refine tC 2 F1 ?_;refine tC 3 F1 ?_;refine tC 2 F1 ?_;refine tS 1 F1 ?_;refine Or.inl (Or.inl ⟨_, k0, ?_⟩);refine tC 5 F1 ?_;refine tC 2 F1 ?_;refine tC 1 F1 ?_;refine tC 1 F1 ?_;refine tS 1 F1 ?_
    skip
    refine tL F1 ?_;refine hk4 _ ?_;refine hn3 (some ([4], none)) _ ?_
    exact sf1 F1
end Go.Proofs.Ytenbagffdlljdaa
