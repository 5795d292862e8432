/-
  Layer 8 by shadows: a thread alone.
  The shadow machine: functions that are handed parts of their caller's own memory, the list of which is left open.
-/
import Derived.Test.YtenbagffdlljdaaGreatDoorK8c
import Derived.Test.YtenbagffdlljdaaGreatDoorMC
namespace Go.Proofs.YtenbagffdlljdaaGreatDoor
set_option linter.unusedSimpArgs false
set_option linter.unusedVariables false
open Go.RowKit Go.Maps
theorem step_len {C : Coder} (w : WorldM C) (t : Int) : (stepM w ⟨0,t,0⟩).1.tasks.length = w.tasks.length := by
 unfold stepM
 split
 ·rfl
 ·rw [if_neg (by simp)]
  split
  ·rfl
  ·rw [if_pos rfl]
   unfold goM
   split
   ·simp [setTask]
   ·rfl
theorem goes_len {C : Coder} (t : Int) : ∀ (k : Nat) (w : WorldM C),(goesM w t k).tasks.length = w.tasks.length
 | 0,_ => rfl
 | k + 1,w => by
  unfold goesM
  split
  ·rw [goes_len t k,step_len]
  ·rfl
theorem goes_stuck {C : Coder} {w : WorldM C} {t : Int} (h : (stepM w ⟨0,t,0⟩).2 = false) : ∀ k,goesM w t k = w
 | 0 => rfl
 | k + 1 => by unfold goesM; rw [if_neg (by rw [h]; simp)]
theorem goes_add {C : Coder} (t : Int) : ∀ (i k : Nat) (w : WorldM C),goesM w t (i + k) = goesM (goesM w t i) t k
 | 0,k,w => by rw [Nat.zero_add]; rfl
 | i + 1,k,w => by
  rw [show i + 1 + k = (i + k) + 1 by omega]
  by_cases h : (stepM w ⟨0,t,0⟩).2 = true
  ·rw [goesM,if_pos h,goesM,if_pos h]
   exact goes_add t i k _
  ·rw [goesM,if_neg h,goesM,if_neg h]
   exact (goes_stuck (by simpa using h) k).symm
end Go.Proofs.YtenbagffdlljdaaGreatDoor
set_option linter.defProp false
namespace Go.Proofs.YtenbagffdlljdaaGreatDoor
set_option linter.unusedSimpArgs false
set_option linter.unusedVariables false
open Go.RowKit Go.Maps

theorem finO_ret {rvs : List RV} {n : Nat} {J : Hp → Env → Prop} {P : (Hp → Env → Prop) → Sh → List (Nat × Ob) → Nat → Prop} {S S2 : St} {l : List Sh} (h0 : S.frzRets rvs = S2) (h1 : S2.retL rvs = some l) (h2 : getA S2.O n = some (.gh J)) (h3 : P J (ret1 l) S2.O S2.n) : finO rvs n J P .ret S := by
 subst h0
 show oB _ _
 rw [h1]; exact ⟨h2,h3⟩
theorem finO_next {rvs : List RV} {n : Nat} {J : Hp → Env → Prop} {P : (Hp → Env → Prop) → Sh → List (Nat × Ob) → Nat → Prop} {S S2 : St} {l : List Sh} (h0 : S.frzRets rvs = S2) (h1 : S2.retL rvs = some l) (h2 : getA S2.O n = some (.gh J)) (h3 : P J (ret1 l) S2.O S2.n) : finO rvs n J P .next S := by
 subst h0
 show oB _ _
 rw [h1]; exact ⟨h2,h3⟩
theorem okO_of_trS {f : FuncId} {fn : Func} {sc : SC} {rvs : List RV} {args : List Sh} {O : List (Nat × Ob)} {n : Nat} {P : (Hp → Env → Prop) → Sh → List (Nat × Ob) → Nat → Prop} (hf : Tryz.prog.funcs[f]? = some fn) (ht : trFn Tryz.prog rfl fn = some (sc,rvs)) (hn : Nat.ble args.length fn.ntmps = true)
  (h : ∀ J,ev sc ⟨argT 0 args,(n,.gh J) :: O,n + 1⟩ (finO rvs n J P)) : OkO f args O n P := by
 unfold trFn at ht
 split at ht
 ·cases ht
 ·rename_i c hb
  split at ht
  ·rename_i x y _ _
   cases ht
   exact okO_of_ev hf hb mixed x.2 y.2 (Nat.le_of_ble_eq_true hn) h
  ·cases ht
theorem getA_delO (l : List (Nat × Ob)) (i j : Nat) : getA (delA l i) j = if i = j then none else getA l j := by
 split
 ·rename_i e; subst e; exact getA_delA_self l i
 ·rename_i e; exact getA_delA_other l e
theorem oid (n : Nat) : (∀ a b : Nat,n + a + b = n + (a + b)) ∧ (∀ (l : List (Nat × Ob)) (i j : Nat),getA (delA l i) j = if i = j then none else getA l j) ∧ (∀ a : Nat,a + 0 = a) ∧
  ((n + 1 = n) = False) ∧ ((n + 2 = n) = False) ∧ ((n + 3 = n) = False) ∧ ((n + 4 = n) = False) ∧ ((n + 5 = n) = False) ∧ ((n + 6 = n) = False) ∧ ((n + 7 = n) = False) ∧ ((n + 8 = n) = False) ∧
  ((n = n + 1) = False) ∧ ((n = n + 2) = False) ∧ ((n = n + 3) = False) ∧ ((n = n + 4) = False) ∧ ((n = n + 5) = False) ∧ ((n = n + 6) = False) ∧ ((n = n + 7) = False) ∧ ((n = n + 8) = False) := by
 refine ⟨fun a b => by omega,getA_delO,fun a => rfl,?_⟩
 refine ⟨?_,?_,?_,?_,?_,?_,?_,?_,?_,?_,?_,?_,?_,?_,?_,?_⟩ <;> exact eq_false (by omega)
theorem odl {n d : Nat} (h : d < n) : ((n = d) = False) ∧ ((d = n) = False) ∧ (∀ k : Nat,(n + k = d) = False) ∧ (∀ k : Nat,(d = n + k) = False) := by
 refine ⟨?_,?_,?_,?_⟩ <;> first | exact eq_false (by omega) | (intro k; exact eq_false (by omega))
theorem ode {a b : Nat} (h : a ≠ b) : ((a = b) = False) ∧ ((b = a) = False) := ⟨eq_false h,eq_false (fun e => h e.symm)⟩
end Go.Proofs.YtenbagffdlljdaaGreatDoor
