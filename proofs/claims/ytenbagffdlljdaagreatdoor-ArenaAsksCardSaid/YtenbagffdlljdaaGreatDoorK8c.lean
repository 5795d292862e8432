/-
  Layer 8 by shadows: steps, runs.
-/
import Derived.Test.YtenbagffdlljdaaGreatDoorK8b
import Derived.Test.YtenbagffdlljdaaGreatDoorMC
namespace Go.Proofs.YtenbagffdlljdaaGreatDoor
set_option linter.unusedSimpArgs false
set_option linter.unusedVariables false
open Go.RowKit Go.Maps
def setTask {C : Coder} (w : WorldM C) (m : MachM) (i : Nat) (t : TaskM C) : WorldM C := ⟨m,w.tasks.set i t,w.stopped⟩
noncomputable def goM {C : Coder} (w : WorldM C) (t c : Int) : WorldM C := match w.tasks[(t - 1).toNat]? with
 | some y => setTask w (doM w.m t y.act c).1 (t - 1).toNat (giveM y (doM w.m t y.act c).2.1)
 | none => w
def haltM {C : Coder} (w : WorldM C) (t : Int) : WorldM C := { w with stopped := w.stopped.set (t - 1).toNat true }
structure PickV where
 kind : Int
 thread : Int
 choice : Int
abbrev ePick (p : PickV) : List Sh := [sI p.kind,sI p.thread,sI p.choice]
noncomputable def stepM {C : Coder} (w : WorldM C) (p : PickV) : WorldM C × Bool :=
 if deadM w = true then (w,false)
 else if p.kind = 2 then (⟨crashM w.m p.choice,[],[]⟩,true)
 else if takesM w p.thread = false then (w,false)
 else if p.kind = 0 then (goM w p.thread p.choice,true)
 else if p.kind = 1 then (haltM w p.thread,true)
 else (w,false)
theorem takes_spec {C : Coder} {w : WorldM C} {t : Int} (h : takesM w t = true) : ∃ (m : Nat) (y : TaskM C),t = (m : Int) + 1 ∧ w.tasks[m]? = some y ∧ y.live = true ∧ stoppedM w m = false := by
 unfold takesM at h
 simp only [Bool.and_eq_true,decide_eq_true_eq,Bool.not_eq_true'] at h
 obtain ⟨⟨h1,h2⟩,h3,h4⟩ := h
 obtain ⟨m,hm⟩ := Int.eq_ofNat_of_zero_le (show 0 ≤ t - 1 by omega)
 rw [hm,Int.toNat_natCast] at h3 h4
 obtain ⟨y,hy⟩ : ∃ y,w.tasks[m]? = some y := ⟨_,List.getElem?_eq_getElem (by omega)⟩
 refine ⟨m,y,by omega,hy,?_,h3⟩
 unfold liveAt at h4
 rw [hy] at h4; exact h4
theorem toldOk {C : Coder} {t : TaskM C} {s : C.St} {a : ActM} {b : Bool} {n : Nat} (hg : t.gots.length ≤ n) (hs : C.good n s) : TaskOk (saidM t s a b) n := by
 unfold saidM
 split
 ·exact ⟨hg,(fun h => nomatch h),fun s' h => by cases h; exact hs⟩
 ·exact ⟨hg,fun _ => ⟨s,rfl⟩,fun s' h => by cases h; exact hs⟩
theorem giveOk {C : Coder} {t : TaskM C} {g : GotV} {n : Nat} (h : TaskOk t n) : TaskOk (giveM t g) (n + 1) := by
 unfold giveM
 split
 ·rename_i hl
  obtain ⟨s,hs⟩ := h.code hl
  rw [hs]
  exact toldOk (t := { t with gots := t.gots ++ [g] }) (by have := h.gots; simp; omega) (C.keeps g (h.good s hs))
 ·exact taskOk_up h (by omega)
theorem startOk {C : Coder} {s : C.St} {n : Nat} (h : C.good n s) : TaskOk (startM s) (n + 1) := toldOk (t := zTask C) (by simp [zTask]) (C.keeps zGot h)
theorem goOk {C : Coder} {w : WorldM C} {n : Nat} (h : WorldOk w n) (t c : Int) : WorldOk (goM w t c) (n + 1) := by
 unfold goM
 split
 ·rename_i y hy
  have hs := size_do h.mach t y.act c
  refine ⟨machOk_do h.mach t y.act c,by simp only [setTask,List.length_set]; rw [hs.1]; exact h.few,by simp only [setTask,List.length_set]; exact h.stops,fun x hx => ?_⟩
  rcases List.mem_or_eq_of_mem_set hx with hx | rfl
  ·exact taskOk_up (h.task x hx) (by omega)
  ·exact giveOk (h.task y (List.mem_of_getElem? hy))
 ·exact worldOk_up h (by omega)
theorem haltOk {C : Coder} {w : WorldM C} {n : Nat} (h : WorldOk w n) (t : Int) : WorldOk (haltM w t) n := ⟨h.mach,h.few,by simp only [haltM,List.length_set]; exact h.stops,h.task⟩
theorem stepOk {C : Coder} {w : WorldM C} {n : Nat} (h : WorldOk w n) (p : PickV) : WorldOk (stepM w p).1 (n + 1) := by
 have hu := worldOk_up h (show n ≤ n + 1 by omega)
 unfold stepM
 split
 ·exact hu
 ·split
  ·exact ⟨machOk_crash h.mach p.choice,by simp,rfl,fun t ht => by cases ht⟩
  ·split
   ·exact hu
   ·split
    ·exact goOk h _ _
    ·split
     ·exact haltOk hu _
     ·exact hu
set_option maxHeartbeats 2000000 in
theorem ok_khalt {C : Coder} (w : WorldM C) (t : Int) {n : Nat} (h : WorldOk w n) (ht : takesM w t = true) : Ok 57 [eWorld w,sI t] (eWorld (haltM w t)) := by
 refine ok_of_tr Tryz.func57 tr_khalt rfl ?_
 obtain ⟨m,y,rfl,hy,hl,_⟩ := takes_spec ht
 have hK := shK C
 have h8 := worldOk_eight h
 have hml := (List.getElem?_eq_some_iff.1 hy).1
 have hst := h.stops
 have q1 : IntKind.i64.wrap ((m : Int) + 1 - 1) = (m : Int) := by rw [IntKind.wrap_i64]; omega
 have q2 : w.tasks.length ≤ 1000000 := by omega
 have q3 : w.tasks.length * 1 ≤ 140737488355328 := by omega
 have em : ((m : Int) + 1 - 1).toNat = m := by omega
 have e1 : (w.stopped.map eBl).take w.tasks.length = w.stopped.map eBl := by rw [List.take_of_length_le (by simp; omega)]
 have e2 : (List.replicate w.tasks.length [Sh.v (.bool false)]).drop w.stopped.length = [] := by simp; omega
 have e3 : (w.stopped.map eBl).set m [sB true] = (w.stopped.set m true).map eBl := by rw [List.map_set]
 obtain ⟨b,hb⟩ : ∃ b,w.stopped[m]? = some b := ⟨_,List.getElem?_eq_getElem (by omega)⟩
 have q4 : m < w.stopped.length := by omega
 unfold haltM
 rw [em]
 unfold evFn sc_khalt rv_khalt
 have F1 := And.intro @q1 (And.intro @q2 (And.intro @q3 (And.intro @q4 (And.intro @e1 (And.intro @e2 (And.intro @hb @e3))))))
 refine eS fun _ hn1 _ _ => ?_;refine eO fun _ hk2 => ?_;refine tL F1 ?_;refine hk2 _ ?_;refine hn1 (some ([1,2,4],none)) _ ?_;refine eS fun _ hn3 _ _ => ?_;refine eO fun _ hk4 => ?_;refine tC 2 F1 ?_;refine tC 2 F1 ?_;refine tL F1 ?_;refine hk4 _ ?_;refine hn3 (some ([1,2,4,5],none)) _ ?_;refine eS fun _ hn5 _ _ => ?_;refine eO fun _ hk6 => ?_;refine tC 3 F1 ?_;refine tZ F1 ?_;refine hk6 _ ?_;refine hn5 (some ([1,2,4,5],none)) _ ?_;refine eS fun _ hn7 _ _ => ?_;refine eO fun _ hk8 => ?_;refine tC 3 F1 ?_;refine tC 1 F1 ?_;refine tZ F1 ?_;refine hk8 _ ?_;refine hn7 (some ([2,4,5],none)) _ ?_;refine eS fun _ hn9 _ _ => ?_;refine eO fun _ hk10 => ?_;refine tZ F1 ?_;refine hk10 _ ?_;refine hn9 (some ([2,4],none)) _ ?_;refine eS fun _ hn11 _ _ => ?_;refine eO fun _ hk12 => ?_;refine tC 1 F1 ?_;refine tZ F1 ?_;refine hk12 _ ?_;refine hn11 (some ([4],none)) _ ?_
 exact sf1 F1
abbrev boxW {C : Coder} (w : WorldM C) : Ob := .box 69 (cWorld w)
noncomputable def goesM {C : Coder} (w : WorldM C) (t : Int) : Nat → WorldM C
 | 0 => w
 | n + 1 => if (stepM w ⟨0,t,0⟩).2 = true then goesM (stepM w ⟨0,t,0⟩).1 t n else w
theorem goes_succ {C : Coder} {w : WorldM C} {t : Int} : ∀ {n : Nat},goesM w t (n + 1) = if (stepM (goesM w t n) ⟨0,t,0⟩).2 = true then (stepM (goesM w t n) ⟨0,t,0⟩).1 else goesM w t n
 | 0 => rfl
 | n + 1 => by
  unfold goesM
  by_cases h : (stepM w ⟨0,t,0⟩).2 = true
  ·rw [if_pos h,if_pos h]
   exact goes_succ (w := (stepM w ⟨0,t,0⟩).1) (n := n)
  ·rw [if_neg h,if_neg h]
   rw [if_neg h]
theorem goesOk {C : Coder} (t : Int) : ∀ (k : Nat) {w : WorldM C} {n : Nat},WorldOk w n → WorldOk (goesM w t k) (n + k)
 | 0,_,_,h => h
 | k + 1,w,n,h => by
  unfold goesM
  split
  ·have := goesOk t k (stepOk h ⟨0,t,0⟩)
   rw [show n + (k + 1) = n + 1 + k by omega]
   exact this
  ·exact worldOk_up h (by omega)
end Go.Proofs.YtenbagffdlljdaaGreatDoor
