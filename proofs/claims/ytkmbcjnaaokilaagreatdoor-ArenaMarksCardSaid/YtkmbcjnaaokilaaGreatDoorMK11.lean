/-
  Layer 8 by shadows: steps, runs.
  Layer 8 by shadows: a thread alone.
  The shadow machine: functions that are handed parts of their caller's own memory, the list of which is left open.
-/
import Derived.Test.YtkmbcjnaaokilaaGreatDoorK8b
import Derived.Test.YtkmbcjnaaokilaaGreatDoorMC
namespace Go.Proofs.YtkmbcjnaaokilaaGreatDoor
set_option linter.unusedSimpArgs false
set_option linter.unusedVariables false
open Go.RowKit Go.Maps
def setTask {C : Coder} (w : WorldM C) (m : MachM) (i : Nat) (t : TaskM C) : WorldM C := ⟨m,w.tasks.set i t,w.stopped⟩
noncomputable def goM {C : Coder} (w : WorldM C) (t c : Int) : WorldM C := match w.tasks[(t - 1).toNat]? with
 | some y => setTask w (doM w.m t y.act c).1 (t - 1).toNat (giveM y (doM w.m t y.act c).2.1)
 | none => w
def haltM {C : Coder} (w : WorldM C) (t : Int) : WorldM C := { w with stopped := w.stopped.set (t - 1).toNat true }
structure PickV where
 kind : Int
 thread : Int
 choice : Int
abbrev ePick (p : PickV) : List Sh := [sI p.kind,sI p.thread,sI p.choice]
noncomputable def stepM {C : Coder} (w : WorldM C) (p : PickV) : WorldM C × Bool :=
 if deadM w = true then (w,false)
 else if p.kind = 2 then (⟨crashM w.m p.choice,[],[]⟩,true)
 else if takesM w p.thread = false then (w,false)
 else if p.kind = 0 then (goM w p.thread p.choice,true)
 else if p.kind = 1 then (haltM w p.thread,true)
 else (w,false)
theorem takes_spec {C : Coder} {w : WorldM C} {t : Int} (h : takesM w t = true) : ∃ (m : Nat) (y : TaskM C),t = (m : Int) + 1 ∧ w.tasks[m]? = some y ∧ y.live = true ∧ stoppedM w m = false := by
 unfold takesM at h
 simp only [Bool.and_eq_true,decide_eq_true_eq,Bool.not_eq_true'] at h
 obtain ⟨⟨h1,h2⟩,h3,h4⟩ := h
 obtain ⟨m,hm⟩ := Int.eq_ofNat_of_zero_le (show 0 ≤ t - 1 by omega)
 rw [hm,Int.toNat_natCast] at h3 h4
 obtain ⟨y,hy⟩ : ∃ y,w.tasks[m]? = some y := ⟨_,List.getElem?_eq_getElem (by omega)⟩
 refine ⟨m,y,by omega,hy,?_,h3⟩
 unfold liveAt at h4
 rw [hy] at h4; exact h4
theorem toldOk {C : Coder} {t : TaskM C} {s : C.St} {a : ActM} {b : Bool} {n : Nat} (hg : t.gots.length ≤ n) (hs : C.good n s) : TaskOk (saidM t s a b) n := by
 unfold saidM
 split
 ·exact ⟨hg,(fun h => nomatch h),fun s' h => by cases h; exact hs⟩
 ·exact ⟨hg,fun _ => ⟨s,rfl⟩,fun s' h => by cases h; exact hs⟩
theorem giveOk {C : Coder} {t : TaskM C} {g : GotV} {n : Nat} (h : TaskOk t n) : TaskOk (giveM t g) (n + 1) := by
 unfold giveM
 split
 ·rename_i hl
  obtain ⟨s,hs⟩ := h.code hl
  rw [hs]
  exact toldOk (t := { t with gots := t.gots ++ [g] }) (by have := h.gots; simp; omega) (C.keeps g (h.good s hs))
 ·exact taskOk_up h (by omega)
theorem startOk {C : Coder} {s : C.St} {n : Nat} (h : C.good n s) : TaskOk (startM s) (n + 1) := toldOk (t := zTask C) (by simp [zTask]) (C.keeps zGot h)
theorem goOk {C : Coder} {w : WorldM C} {n : Nat} (h : WorldOk w n) (t c : Int) : WorldOk (goM w t c) (n + 1) := by
 unfold goM
 split
 ·rename_i y hy
  have hs := size_do h.mach t y.act c
  refine ⟨machOk_do h.mach t y.act c,by simp only [setTask,List.length_set]; rw [hs.1]; exact h.few,by simp only [setTask,List.length_set]; exact h.stops,fun x hx => ?_⟩
  rcases List.mem_or_eq_of_mem_set hx with hx | rfl
  ·exact taskOk_up (h.task x hx) (by omega)
  ·exact giveOk (h.task y (List.mem_of_getElem? hy))
 ·exact worldOk_up h (by omega)
theorem haltOk {C : Coder} {w : WorldM C} {n : Nat} (h : WorldOk w n) (t : Int) : WorldOk (haltM w t) n := ⟨h.mach,h.few,by simp only [haltM,List.length_set]; exact h.stops,h.task⟩
theorem stepOk {C : Coder} {w : WorldM C} {n : Nat} (h : WorldOk w n) (p : PickV) : WorldOk (stepM w p).1 (n + 1) := by
 have hu := worldOk_up h (show n ≤ n + 1 by omega)
 unfold stepM
 split
 ·exact hu
 ·split
  ·exact ⟨machOk_crash h.mach p.choice,by simp,rfl,fun t ht => by cases ht⟩
  ·split
   ·exact hu
   ·split
    ·exact goOk h _ _
    ·split
     ·exact haltOk hu _
     ·exact hu
set_option maxHeartbeats 2000000 in
theorem ok_khalt {C : Coder} (w : WorldM C) (t : Int) {n : Nat} (h : WorldOk w n) (ht : takesM w t = true) : Ok 53 [eWorld w,sI t] (eWorld (haltM w t)) := by
 refine ok_of_tr Tryz.func53 tr_khalt rfl ?_
 obtain ⟨m,y,rfl,hy,hl,_⟩ := takes_spec ht
 have hK := shK C
 have h8 := worldOk_eight h
 have hml := (List.getElem?_eq_some_iff.1 hy).1
 have hst := h.stops
 have q1 : IntKind.i64.wrap ((m : Int) + 1 - 1) = (m : Int) := by rw [IntKind.wrap_i64]; omega
 have q2 : w.tasks.length ≤ 1000000 := by omega
 have q3 : w.tasks.length * 1 ≤ 140737488355328 := by omega
 have em : ((m : Int) + 1 - 1).toNat = m := by omega
 have e1 : (w.stopped.map eBl).take w.tasks.length = w.stopped.map eBl := by rw [List.take_of_length_le (by simp; omega)]
 have e2 : (List.replicate w.tasks.length [Sh.v (.bool false)]).drop w.stopped.length = [] := by simp; omega
 have e3 : (w.stopped.map eBl).set m [sB true] = (w.stopped.set m true).map eBl := by rw [List.map_set]
 obtain ⟨b,hb⟩ : ∃ b,w.stopped[m]? = some b := ⟨_,List.getElem?_eq_getElem (by omega)⟩
 have q4 : m < w.stopped.length := by omega
 unfold haltM
 rw [em]
 unfold evFn sc_khalt rv_khalt
 have F1 := And.intro @q1 (And.intro @q2 (And.intro @q3 (And.intro @q4 (And.intro @e1 (And.intro @e2 (And.intro @hb @e3))))))
 refine eS fun _ hn1 _ _ => ?_;refine eO fun _ hk2 => ?_;refine tL F1 ?_;refine hk2 _ ?_;refine hn1 (some ([1,2,4],none)) _ ?_;refine eS fun _ hn3 _ _ => ?_;refine eO fun _ hk4 => ?_;refine tC 2 F1 ?_;refine tC 2 F1 ?_;refine tL F1 ?_;refine hk4 _ ?_;refine hn3 (some ([1,2,4,5],none)) _ ?_;refine eS fun _ hn5 _ _ => ?_;refine eO fun _ hk6 => ?_;refine tC 3 F1 ?_;refine tZ F1 ?_;refine hk6 _ ?_;refine hn5 (some ([1,2,4,5],none)) _ ?_;refine eS fun _ hn7 _ _ => ?_;refine eO fun _ hk8 => ?_;refine tC 3 F1 ?_;refine tC 1 F1 ?_;refine tZ F1 ?_;refine hk8 _ ?_;refine hn7 (some ([2,4,5],none)) _ ?_;refine eS fun _ hn9 _ _ => ?_;refine eO fun _ hk10 => ?_;refine tZ F1 ?_;refine hk10 _ ?_;refine hn9 (some ([2,4],none)) _ ?_;refine eS fun _ hn11 _ _ => ?_;refine eO fun _ hk12 => ?_;refine tC 1 F1 ?_;refine tZ F1 ?_;refine hk12 _ ?_;refine hn11 (some ([4],none)) _ ?_
 exact sf1 F1
abbrev boxW {C : Coder} (w : WorldM C) : Ob := .box 63 (cWorld w)
noncomputable def goesM {C : Coder} (w : WorldM C) (t : Int) : Nat → WorldM C
 | 0 => w
 | n + 1 => if (stepM w ⟨0,t,0⟩).2 = true then goesM (stepM w ⟨0,t,0⟩).1 t n else w
theorem goes_succ {C : Coder} {w : WorldM C} {t : Int} : ∀ {n : Nat},goesM w t (n + 1) = if (stepM (goesM w t n) ⟨0,t,0⟩).2 = true then (stepM (goesM w t n) ⟨0,t,0⟩).1 else goesM w t n
 | 0 => rfl
 | n + 1 => by
  unfold goesM
  by_cases h : (stepM w ⟨0,t,0⟩).2 = true
  ·rw [if_pos h,if_pos h]
   exact goes_succ (w := (stepM w ⟨0,t,0⟩).1) (n := n)
  ·rw [if_neg h,if_neg h]
   rw [if_neg h]
theorem goesOk {C : Coder} (t : Int) : ∀ (k : Nat) {w : WorldM C} {n : Nat},WorldOk w n → WorldOk (goesM w t k) (n + k)
 | 0,_,_,h => h
 | k + 1,w,n,h => by
  unfold goesM
  split
  ·have := goesOk t k (stepOk h ⟨0,t,0⟩)
   rw [show n + (k + 1) = n + 1 + k by omega]
   exact this
  ·exact worldOk_up h (by omega)
end Go.Proofs.YtkmbcjnaaokilaaGreatDoor
namespace Go.Proofs.YtkmbcjnaaokilaaGreatDoor
set_option linter.unusedSimpArgs false
set_option linter.unusedVariables false
open Go.RowKit Go.Maps
theorem step_len {C : Coder} (w : WorldM C) (t : Int) : (stepM w ⟨0,t,0⟩).1.tasks.length = w.tasks.length := by
 unfold stepM
 split
 ·rfl
 ·rw [if_neg (by simp)]
  split
  ·rfl
  ·rw [if_pos rfl]
   unfold goM
   split
   ·simp [setTask]
   ·rfl
theorem goes_len {C : Coder} (t : Int) : ∀ (k : Nat) (w : WorldM C),(goesM w t k).tasks.length = w.tasks.length
 | 0,_ => rfl
 | k + 1,w => by
  unfold goesM
  split
  ·rw [goes_len t k,step_len]
  ·rfl
theorem goes_stuck {C : Coder} {w : WorldM C} {t : Int} (h : (stepM w ⟨0,t,0⟩).2 = false) : ∀ k,goesM w t k = w
 | 0 => rfl
 | k + 1 => by unfold goesM; rw [if_neg (by rw [h]; simp)]
theorem goes_add {C : Coder} (t : Int) : ∀ (i k : Nat) (w : WorldM C),goesM w t (i + k) = goesM (goesM w t i) t k
 | 0,k,w => by rw [Nat.zero_add]; rfl
 | i + 1,k,w => by
  rw [show i + 1 + k = (i + k) + 1 by omega]
  by_cases h : (stepM w ⟨0,t,0⟩).2 = true
  ·rw [goesM,if_pos h,goesM,if_pos h]
   exact goes_add t i k _
  ·rw [goesM,if_neg h,goesM,if_neg h]
   exact (goes_stuck (by simpa using h) k).symm
end Go.Proofs.YtkmbcjnaaokilaaGreatDoor
set_option linter.defProp false
namespace Go.Proofs.YtkmbcjnaaokilaaGreatDoor
set_option linter.unusedSimpArgs false
set_option linter.unusedVariables false
open Go.RowKit Go.Maps

theorem finO_ret {rvs : List RV} {n : Nat} {J : Hp → Env → Prop} {P : (Hp → Env → Prop) → Sh → List (Nat × Ob) → Nat → Prop} {S S2 : St} {l : List Sh} (h0 : S.frzRets rvs = S2) (h1 : S2.retL rvs = some l) (h2 : getA S2.O n = some (.gh J)) (h3 : P J (ret1 l) S2.O S2.n) : finO rvs n J P .ret S := by
 subst h0
 show oB _ _
 rw [h1]; exact ⟨h2,h3⟩
theorem finO_next {rvs : List RV} {n : Nat} {J : Hp → Env → Prop} {P : (Hp → Env → Prop) → Sh → List (Nat × Ob) → Nat → Prop} {S S2 : St} {l : List Sh} (h0 : S.frzRets rvs = S2) (h1 : S2.retL rvs = some l) (h2 : getA S2.O n = some (.gh J)) (h3 : P J (ret1 l) S2.O S2.n) : finO rvs n J P .next S := by
 subst h0
 show oB _ _
 rw [h1]; exact ⟨h2,h3⟩
theorem okO_of_trS {f : FuncId} {fn : Func} {sc : SC} {rvs : List RV} {args : List Sh} {O : List (Nat × Ob)} {n : Nat} {P : (Hp → Env → Prop) → Sh → List (Nat × Ob) → Nat → Prop} (hf : Tryz.prog.funcs[f]? = some fn) (ht : trFn Tryz.prog rfl fn = some (sc,rvs)) (hn : Nat.ble args.length fn.ntmps = true)
  (h : ∀ J,ev sc ⟨argT 0 args,(n,.gh J) :: O,n + 1⟩ (finO rvs n J P)) : OkO f args O n P := by
 unfold trFn at ht
 split at ht
 ·cases ht
 ·rename_i c hb
  split at ht
  ·rename_i x y _ _
   cases ht
   exact okO_of_ev hf hb mixed x.2 y.2 (Nat.le_of_ble_eq_true hn) h
  ·cases ht
theorem getA_delO (l : List (Nat × Ob)) (i j : Nat) : getA (delA l i) j = if i = j then none else getA l j := by
 split
 ·rename_i e; subst e; exact getA_delA_self l i
 ·rename_i e; exact getA_delA_other l e
theorem oid (n : Nat) : (∀ a b : Nat,n + a + b = n + (a + b)) ∧ (∀ (l : List (Nat × Ob)) (i j : Nat),getA (delA l i) j = if i = j then none else getA l j) ∧ (∀ a : Nat,a + 0 = a) ∧
  ((n + 1 = n) = False) ∧ ((n + 2 = n) = False) ∧ ((n + 3 = n) = False) ∧ ((n + 4 = n) = False) ∧ ((n + 5 = n) = False) ∧ ((n + 6 = n) = False) ∧ ((n + 7 = n) = False) ∧ ((n + 8 = n) = False) ∧
  ((n = n + 1) = False) ∧ ((n = n + 2) = False) ∧ ((n = n + 3) = False) ∧ ((n = n + 4) = False) ∧ ((n = n + 5) = False) ∧ ((n = n + 6) = False) ∧ ((n = n + 7) = False) ∧ ((n = n + 8) = False) := by
 refine ⟨fun a b => by omega,getA_delO,fun a => rfl,?_⟩
 refine ⟨?_,?_,?_,?_,?_,?_,?_,?_,?_,?_,?_,?_,?_,?_,?_,?_⟩ <;> exact eq_false (by omega)
theorem odl {n d : Nat} (h : d < n) : ((n = d) = False) ∧ ((d = n) = False) ∧ (∀ k : Nat,(n + k = d) = False) ∧ (∀ k : Nat,(d = n + k) = False) := by
 refine ⟨?_,?_,?_,?_⟩ <;> first | exact eq_false (by omega) | (intro k; exact eq_false (by omega))
theorem ode {a b : Nat} (h : a ≠ b) : ((a = b) = False) ∧ ((b = a) = False) := ⟨eq_false h,eq_false (fun e => h e.symm)⟩
end Go.Proofs.YtkmbcjnaaokilaaGreatDoor
