/-
  Layer 8 by shadows: worlds.
-/
import Derived.Test.YtkmbcjnaaokilaaGreatDoorK8a
import Derived.Test.YtkmbcjnaaokilaaGreatDoorMC
namespace Go.Proofs.YtkmbcjnaaokilaaGreatDoor
set_option linter.unusedSimpArgs false
set_option linter.unusedVariables false
open Go.RowKit Go.Maps
theorem size_do {M : MachM} {n : Nat} (hM : MachOk M n) (t : Int) (a : ActM) (c : Int) : (doM M t a c).1.mem.views.length = M.mem.views.length ∧ (doM M t a c).1.mem.places.length = M.mem.places.length := by
 unfold doM
 split
 ·rename_i h
  obtain ⟨_,_,h1,h2,_⟩ := machOk_act hM c h
  exact ⟨h1,h2⟩
 ·exact ⟨rfl,rfl⟩
structure WorldM (C : Coder) where
 m : MachM
 tasks : List (TaskM C)
 stopped : List Bool
abbrev eBl (b : Bool) : List Sh := [sB b]
abbrev cWorld {C : Coder} (w : WorldM C) : List Sh := [.sl 1 0 (w.m.mem.places.map ePlace),.sl 1 0 (w.m.mem.views.map eV1),.sl 3 0 (w.m.lines.first.map eWord),.sl 2 0 (w.m.lines.logs.map eLog),.mp 3 fun t => (w.m.lines.asks t).map eAsked,.sl 1 0 (w.m.steps.map eSt),sI w.m.crashes,.sl 11 0 (w.tasks.map eTask),.sl 1 0 (w.stopped.map eBl)]
abbrev eWorld {C : Coder} (w : WorldM C) : Sh := .agg (cWorld w)
abbrev zCells : List Sh := [.sl 1 0 [],.sl 1 0 [],.sl 3 0 [],.sl 2 0 [],.mp 3 fun _ => none,.sl 1 0 [],sI 0,.sl 11 0 [],.sl 1 0 []]
structure WorldOk {C : Coder} (w : WorldM C) (n : Nat) : Prop where
 mach : MachOk w.m n
 few : w.tasks.length ≤ w.m.mem.views.length
 stops : w.stopped.length = w.tasks.length
 task : ∀ t ∈ w.tasks,TaskOk t n
theorem taskOk_up {C : Coder} {t : TaskM C} {n k : Nat} (h : TaskOk t n) (hk : n ≤ k) : TaskOk t k := ⟨Nat.le_trans h.gots hk,h.code,fun s hs => C.up (h.good s hs) hk⟩
theorem worldOk_up {C : Coder} {w : WorldM C} {n k : Nat} (h : WorldOk w n) (hk : n ≤ k) : WorldOk w k := ⟨machOk_up h.mach hk,h.few,h.stops,fun t ht => taskOk_up (h.task t ht) hk⟩
theorem worldOk_eight {C : Coder} {w : WorldM C} {n : Nat} (h : WorldOk w n) : w.tasks.length ≤ 8 := Nat.le_trans h.few h.mach.mem.vl
abbrev eC1 (C : Coder) (s : C.St) : List Sh := [eCode C (some s)]
def stoppedM {C : Coder} (w : WorldM C) (i : Nat) : Bool := (w.stopped[i]?).getD false
theorem ok_kStopped {C : Coder} (w : WorldM C) (i : Nat) (hi : i ≤ 1000000) : Ok 54 [eWorld w,sI i] (sB (stoppedM w i)) := by
 refine ok_of_tr Tryz.func54 tr_kStopped rfl ?_
 unfold stoppedM
 by_cases h : i < w.stopped.length
 ·have h1 : (i : Int) < (w.stopped.length : Int) := by omega
  have h2 := List.getElem?_eq_getElem h
  generalize w.stopped[i] = b at h2
  rw [h2]
  unfold evFn sc_kStopped rv_kStopped
  have F1 := And.intro @h1 @h2
  refine eS fun K1 hn1 hr1 he1 => ?_;refine eO fun K2 hk2 => ?_;refine tL F1 ?_;refine hk2 _ ?_;refine hn1 (some ([1,2],none)) _ ?_;refine eS fun K3 hn3 hr3 he3 => ?_;refine eO fun K4 hk4 => ?_;refine tC 3 F1 ?_;refine tC 2 F1 ?_;refine tC 3 F1 ?_;refine tC 2 F1 ?_;refine tC 1 F1 ?_;refine tL F1 ?_;refine hk4 _ ?_;refine hn3 (some ([4],none)) _ ?_
  exact sf1 F1
 ·have h1 : ¬ (i : Int) < (w.stopped.length : Int) := by omega
  rw [List.getElem?_eq_none (by omega)]
  unfold evFn sc_kStopped rv_kStopped
  have F1 := @h1
  refine eS fun K1 hn1 hr1 he1 => ?_;refine eO fun K2 hk2 => ?_;refine tL F1 ?_;refine hk2 _ ?_;refine hn1 (some ([1,2],none)) _ ?_;refine eS fun K3 hn3 hr3 he3 => ?_;refine eO fun K4 hk4 => ?_;refine tC 3 F1 ?_;refine tC 2 F1 ?_;refine tC 3 F1 ?_;refine tC 2 F1 ?_;refine tC 1 F1 ?_;refine tL F1 ?_;refine hk4 _ ?_;refine hn3 (some ([4],none)) _ ?_
  exact sf1 F1
def deadM {C : Coder} (w : WorldM C) : Bool := decide (w.m.mem.views.length = 0)
theorem ok_kDead {C : Coder} (w : WorldM C) : Ok 49 [eWorld w] (sB (deadM w)) := by
 refine ok_of_tr Tryz.func49 tr_kDead rfl ?_
 have e : deadM w = ((w.m.mem.views.length : Int) == 0) := by
  unfold deadM
  rw [Bool.eq_iff_iff]; simp
 rw [e]
 unfold evFn sc_kDead rv_kDead
 refine eS fun _ hn1 _ _ => ?_;refine eO fun _ hk2 => ?_;refine tL0 ?_;refine hk2 _ ?_;refine hn1 (some ([1],none)) _ ?_;refine eS fun _ hn3 _ _ => ?_;refine eO fun _ hk4 => ?_;refine tC0 2 ?_;refine tS0 1 ?_;refine Or.inl (Or.inl ⟨_,ok_cSize w.m,?_⟩);refine tL0 ?_;refine hk4 _ ?_;refine hn3 (some ([3],none)) _ ?_;refine eS fun _ hn5 _ _ => ?_;refine eO fun _ hk6 => ?_;refine tC0 2 ?_;refine tL0 ?_;refine hk6 _ ?_;refine hn5 (some ([2],none)) _ ?_
 exact sf0
def liveAt {C : Coder} (w : WorldM C) (i : Nat) : Bool := ((w.tasks[i]?).map TaskM.live).getD false
def takesM {C : Coder} (w : WorldM C) (t : Int) : Bool := decide (1 ≤ t ∧ t ≤ (w.tasks.length : Int)) && (!(stoppedM w (t - 1).toNat) && liveAt w (t - 1).toNat)
set_option maxHeartbeats 2000000 in
theorem ok_kTakes {C : Coder} (w : WorldM C) (t : Int) (hl : w.tasks.length ≤ 8) : Ok 51 [eWorld w,sI t] (sB (takesM w t)) := by
 refine ok_of_tr Tryz.func51 tr_kTakes rfl ?_
 have hK := shK C
 unfold takesM
 by_cases h1 : 1 ≤ t
 case neg =>
  rw [show decide (1 ≤ t ∧ t ≤ (w.tasks.length : Int)) = false from decide_eq_false (fun h => h1 h.1),Bool.false_and]
  unfold evFn sc_kTakes rv_kTakes
  have F1 := And.intro @h1 @hK
  refine eS fun K1 hn1 hr1 he1 => ?_;refine eO fun K2 hk2 => ?_;refine tL F1 ?_;refine hk2 _ ?_;refine hn1 (some ([1,2],none)) _ ?_;refine eS fun K3 hn3 hr3 he3 => ?_;refine eO fun K4 hk4 => ?_;refine tC 2 F1 ?_;refine tC 4 F1 ?_;refine tC 2 F1 ?_;refine tC 3 F1 ?_;refine tC 2 F1 ?_;refine tS 1 F1 ?_
  skip
  refine tC 5 F1 ?_;refine tC 2 F1 ?_;refine tC 1 F1 ?_;refine tC 1 F1 ?_;refine tS 1 F1 ?_
  skip
  refine tL F1 ?_;refine hk4 _ ?_;refine hn3 (some ([4],none)) _ ?_
  exact sf1 F1
 by_cases h2 : t ≤ (w.tasks.length : Int)
 case neg =>
  rw [show decide (1 ≤ t ∧ t ≤ (w.tasks.length : Int)) = false from decide_eq_false (fun h => h2 h.2),Bool.false_and]
  unfold evFn sc_kTakes rv_kTakes
  have F1 := And.intro @h1 (And.intro @h2 @hK)
  refine eS fun K1 hn1 hr1 he1 => ?_;refine eO fun K2 hk2 => ?_;refine tL F1 ?_;refine hk2 _ ?_;refine hn1 (some ([1,2],none)) _ ?_;refine eS fun K3 hn3 hr3 he3 => ?_;refine eO fun K4 hk4 => ?_;refine tC 2 F1 ?_;refine tC 4 F1 ?_;refine tC 2 F1 ?_;refine tC 3 F1 ?_;refine tC 2 F1 ?_;refine tS 1 F1 ?_
  skip
  refine tC 5 F1 ?_;refine tC 2 F1 ?_;refine tC 1 F1 ?_;refine tC 1 F1 ?_;refine tS 1 F1 ?_
  skip
  refine tL F1 ?_;refine hk4 _ ?_;refine hn3 (some ([4],none)) _ ?_
  exact sf1 F1
 rw [show decide (1 ≤ t ∧ t ≤ (w.tasks.length : Int)) = true from decide_eq_true ⟨h1,h2⟩,Bool.true_and]
 obtain ⟨m,hm⟩ := Int.eq_ofNat_of_zero_le (show 0 ≤ t - 1 by omega)
 have q1 : IntKind.i64.wrap (t - 1) = (m : Int) := by rw [IntKind.wrap_i64]; omega
 have k0 := ok_kStopped w m (by omega)
 rw [hm,Int.toNat_natCast]
 obtain ⟨y,hy⟩ : ∃ y,w.tasks[m]? = some y := ⟨_,List.getElem?_eq_getElem (by omega)⟩
 have e1 : liveAt w m = y.live := by unfold liveAt; rw [hy]; rfl
 have k1 := ok_kDone y
 rw [e1]
 generalize y.live = b at k1
 cases hb : stoppedM w m
 ·rw [hb] at k0
  have hn : (!!b) = b := by simp
  unfold evFn sc_kTakes rv_kTakes
  have F1 := And.intro @h1 (And.intro @h2 (And.intro @q1 (And.intro @hK (And.intro @hy @hn))))
  refine eS fun K1 hn1 hr1 he1 => ?_;refine eO fun K2 hk2 => ?_;refine tL F1 ?_;refine hk2 _ ?_;refine hn1 (some ([1,2],none)) _ ?_;refine eS fun K3 hn3 hr3 he3 => ?_;refine eO fun K4 hk4 => ?_;refine tC 2 F1 ?_;refine tC 4 F1 ?_;refine tC 2 F1 ?_;refine tC 3 F1 ?_;refine tC 2 F1 ?_;refine tS 1 F1 ?_;refine Or.inl (Or.inl ⟨_,k0,?_⟩);refine tC 5 F1 ?_;refine tC 2 F1 ?_;refine tC 1 F1 ?_;refine tC 1 F1 ?_;refine tS 1 F1 ?_;refine Or.inl (Or.inl ⟨_,k1,?_⟩);refine tL F1 ?_;refine hk4 _ ?_;refine hn3 (some ([4],none)) _ ?_
  exact sf1 F1
 ·rw [hb] at k0
  unfold evFn sc_kTakes rv_kTakes
  have F1 := And.intro @h1 (And.intro @h2 (And.intro @q1 (And.intro @hK @hy)))
  refine eS fun K1 hn1 hr1 he1 => ?_;refine eO fun K2 hk2 => ?_;refine tL F1 ?_;refine hk2 _ ?_;refine hn1 (some ([1,2],none)) _ ?_;refine eS fun K3 hn3 hr3 he3 => ?_;refine eO fun K4 hk4 => ?_;refine tC 2 F1 ?_;refine tC 4 F1 ?_;refine tC 2 F1 ?_;refine tC 3 F1 ?_;refine tC 2 F1 ?_;refine tS 1 F1 ?_;refine Or.inl (Or.inl ⟨_,k0,?_⟩);refine tC 5 F1 ?_;refine tC 2 F1 ?_;refine tC 1 F1 ?_;refine tC 1 F1 ?_;refine tS 1 F1 ?_
  skip
  refine tL F1 ?_;refine hk4 _ ?_;refine hn3 (some ([4],none)) _ ?_
  exact sf1 F1
end Go.Proofs.YtkmbcjnaaokilaaGreatDoor
