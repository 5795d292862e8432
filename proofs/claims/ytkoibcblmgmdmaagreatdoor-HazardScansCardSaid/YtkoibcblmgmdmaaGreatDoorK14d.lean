/-
  Layer 14 by shadows: begun.
-/
import Derived.Test.YtkoibcblmgmdmaaGreatDoorK14c
import Derived.Test.YtkoibcblmgmdmaaGreatDoorMC
namespace Go.Proofs.YtkoibcblmgmdmaaGreatDoor
set_option linter.unusedSimpArgs false
set_option linter.unusedVariables false
open Go.RowKit Go.Maps
structure RgP where
  a : Int
  b : Int
  h0 : Int
  h1 : Int
  h2 : Int
  d0 : DoH
  d1 : DoH
  d2 : DoH
  L : LayV
  ws : List WordV
  c0 : Nat
  c1 : Nat
abbrev RgP.hz (x : RgP) : List Sh := [sI x.h0, sI x.h1, sI x.h2]
abbrev RgP.dos (x : RgP) : List Sh := [s8h x.d0.kind, s8h x.d0.cell, sI x.d0.n, s8h x.d1.kind, s8h x.d1.cell, sI x.d1.n, s8h x.d2.kind, s8h x.d2.cell, sI x.d2.n]
def rgB : List (Nat × Sh) := [(3, .ptr 0 0 0), (4, .ptr 1 0 0), (5, .ptr 2 0 0), (6, .ptr 3 0 0), (8, .ptr 4 0 0), (9, .own 5)]
def rgO (x : RgP) : List (Nat × Ob) := [(0, .box 22 [sI x.a, sI x.b]), (1, .box 23 x.hz), (2, .box 26 x.dos), (3, .box 47 zCells), (4, .box 51 (eLay x.L))]
def rgR (x : RgP) : List (Nat × Nat × Sh) := [(57, 0, .own 5), (58, 1, .agg (eLay x.L)), (59, 2, sI x.c0), (60, 3, .own 5), (61, 4, .agg (eLay x.L)), (62, 5, sI x.c1), (63, 6, .ptr 0 0 0), (64, 7, sI x.a), (65, 8, .ptr 0 0 1), (66, 9, sI x.b), (67, 10, .ptr 5 x.c0 0), (68, 11, .ptr 5 x.c0 0), (69, 13, .ptr 5 x.c1 0), (70, 14, .ptr 5 x.c1 0)]
def rgRow (x : RgP) (done : List Nat) : List WordV := if done.contains 15 = true then putV (putV x.ws x.c0 x.a) x.c1 x.b else if done.contains 12 = true then putV x.ws x.c0 x.a else x.ws
theorem rgRow_len (x : RgP) (done : List Nat) : (rgRow x done).length = x.ws.length := by
  unfold rgRow
  split
  · rw [putV_len, putV_len]
  · split
    · rw [putV_len]
    · rfl
theorem rgRow_12 {x : RgP} {done : List Nat} (h12 : done.contains 12 = false) (h15 : done.contains 15 = false) : rgRow x (12 :: done) = putV (rgRow x done) x.c0 x.a := by
  have e15 : (12 :: done).contains 15 = false := by rw [List.contains_cons, h15]; rfl
  have e12 : (12 :: done).contains 12 = true := by rw [List.contains_cons]; rfl
  unfold rgRow
  rw [e15, e12, h12, h15]
  rfl
theorem rgRow_15 {x : RgP} {done : List Nat} (h12 : done.contains 12 = true) (h15 : done.contains 15 = false) : rgRow x (15 :: done) = putV (rgRow x done) x.c1 x.b := by
  have e15 : (15 :: done).contains 15 = true := by rw [List.contains_cons]; rfl
  unfold rgRow
  rw [e15, h12, h15]
  rfl
structure RgI (x : RgP) (done : List Nat) (S : St) : Prop where
  base : ∀ t s, getA rgB t = some s → getA S.T t = some s
  got : ∀ t j s, getA (rgR x) t = some (j, s) → done.contains j = true → getA S.T t = some s
  ob : ∀ t s, getA (rgO x) t = some s → getA S.O t = some s
  row : getA S.O 5 = some (.row 66 3 ((rgRow x done).map eWord))
  nx : S.n = 6
  cl : done.contains 15 = true → done.contains 12 = true
theorem getA_mem {α : Type} : ∀ {l : List (Nat × α)} {t : Nat} {v : α}, getA l t = some v → (t, v) ∈ l
  | (k, q) :: l, t, v, hu => by
    simp only [getA] at hu
    split at hu
    · rename_i e2; cases hu; subst e2; exact List.mem_cons_self ..
    · exact List.mem_cons_of_mem _ (getA_mem hu)
theorem getA_put_self {α : Type} (l : List (Nat × α)) (t : Nat) (s : α) : getA ((t, s) :: delA l t) t = some s := by simp [getA]
theorem getA_delN {α : Type} {t u : Nat} (h : t ≠ u) : ∀ l : List (Nat × α), getA (delA l t) u = getA l u
  | [] => rfl
  | (k, x) :: l => by
    unfold delA
    by_cases e : k = t
    · subst e
      rw [if_pos rfl, getA_delN h l]
      simp [getA, h]
    · rw [if_neg e]
      simp only [getA]
      rw [getA_delN h l]
theorem getA_put_ne {α : Type} (l : List (Nat × α)) {t u : Nat} (s : α) (h : t ≠ u) : getA ((t, s) :: delA l t) u = getA l u := by
  simp only [getA]
  rw [if_neg h, getA_delN h]
theorem RgI.put {x : RgP} {done : List Nat} {S : St} {i t : Nat} {s : Sh} (h : RgI x done S) (hi : getA (rgR x) t = some (i, s)) (hB : getA rgB t = none) (hR : ((rgR x).all fun r => r.2.1 != i || r.1 == t) = true) (h12 : i ≠ 12) (h15 : i ≠ 15) : RgI x (i :: done) (S.put t s) := by
  have hc : ∀ j, j ≠ i → (i :: done).contains j = done.contains j := fun j hj => by
    rw [List.contains_cons, show (j == i) = false by simpa using hj, Bool.false_or]
  refine ⟨fun u v hu => ?_, fun u j v hu hj => ?_, h.ob, ?_, h.nx, fun h' => ?_⟩
  · show getA ((t, s) :: delA S.T t) u = _
    rw [getA_put_ne _ _ (fun e => by subst e; rw [hB] at hu; cases hu)]
    exact h.base u v hu
  · show getA ((t, s) :: delA S.T t) u = _
    by_cases e : t = u
    · subst e
      rw [hi] at hu
      cases hu
      exact getA_put_self _ _ _
    · rw [getA_put_ne _ _ e]
      have hji : j ≠ i := fun e2 => by
        subst e2
        have hm : (u, j, v) ∈ rgR x := getA_mem hu
        have h9 := List.all_eq_true.1 hR _ hm
        simp at h9
        exact e h9.symm
      rw [hc j hji] at hj
      exact h.got u j v hu hj
  · have e : rgRow x (i :: done) = rgRow x done := by unfold rgRow; rw [hc 15 (fun e => h15 e.symm), hc 12 (fun e => h12 e.symm)]
    rw [e]; exact h.row
  · rw [hc 15 (fun e => h15 e.symm)] at h'
    rw [hc 12 (fun e => h12 e.symm)]
    exact h.cl h'
theorem RgI.store {x : RgP} {done : List Nat} {S : St} {i : Nat} {ws : List WordV} (h : RgI x done S) (hi : i = 12 ∨ (i = 15 ∧ done.contains 12 = true)) (hw : rgRow x (i :: done) = ws) : RgI x (i :: done) (S.setO 5 (.row 66 3 (ws.map eWord))) := by
  subst hw
  have hno : ∀ t s, getA (rgR x) t ≠ some (i, s) := fun t s hu => by
    have hm : (t, i, s) ∈ rgR x := getA_mem hu
    have h9 : ((rgR x).all fun r => r.2.1 != 12 && r.2.1 != 15) = true := rfl
    have h8 := List.all_eq_true.1 h9 _ hm
    simp only [Bool.and_eq_true, bne_iff_ne, ne_eq] at h8
    rcases hi with rfl | ⟨rfl, _⟩
    · exact h8.1 rfl
    · exact h8.2 rfl
  refine ⟨h.base, fun t j s hu hj => ?_, fun u v hu => ?_, getA_put_self _ _ _, h.nx, fun h' => ?_⟩
  · by_cases e : j = i
    · subst e; exact absurd hu (hno t s)
    · rw [List.contains_cons, show (j == i) = false by simpa using e, Bool.false_or] at hj
      exact h.got t j s hu hj
  · show getA ((5, _) :: delA S.O 5) u = _
    rw [getA_put_ne _ _ (fun e => by subst e; have h9 : getA (rgO x) 5 = none := rfl; rw [h9] at hu; cases hu)]
    exact h.ob u v hu
  · rcases hi with rfl | ⟨rfl, h12⟩
    · simp
    · rw [List.contains_cons, h12]; simp
abbrev rgS1 (x : RgP) : St := ⟨[(4, .ptr 1 0 0), (5, .ptr 2 0 0), (6, .ptr 3 0 0), (8, .ptr 4 0 0), (9, .own 5)], [(0, .box 22 [sI x.a, sI x.b]), (1, .box 23 x.hz), (2, .box 26 x.dos), (3, .box 47 zCells), (4, .box 51 (eLay x.L)), (5, .row 66 3 ((putV (putV x.ws x.c0 x.a) x.c1 x.b).map eWord))], 6⟩
theorem rg_end {x : RgP} {done : List Nat} {S : St} (h : RgI x done S) (hall : ∀ i, i < 16 → done.contains i = true) : ∃ kp, (S.keep kp).sorted = rgS1 x := by
  refine ⟨some ([4,5,6,8,9], some ([0,1,2,3,4,5], 6)), ?_⟩
  have hT : keepT S.T [4,5,6,8,9] = [(4, .ptr 1 0 0), (5, .ptr 2 0 0), (6, .ptr 3 0 0), (8, .ptr 4 0 0), (9, .own 5)] := by
    simp only [keepT, h.base 4 _ rfl, h.base 5 _ rfl, h.base 6 _ rfl, h.base 8 _ rfl, h.base 9 _ rfl]
  have hr := h.row
  unfold rgRow at hr
  rw [if_pos (hall 15 (by decide))] at hr
  have hO : keepT S.O [0,1,2,3,4,5] = [(0, .box 22 [sI x.a, sI x.b]), (1, .box 23 x.hz), (2, .box 26 x.dos), (3, .box 47 zCells), (4, .box 51 (eLay x.L)), (5, .row 66 3 ((putV (putV x.ws x.c0 x.a) x.c1 x.b).map eWord))] := by
    simp only [keepT, h.ob 0 _ rfl, h.ob 1 _ rfl, h.ob 2 _ rfl, h.ob 3 _ rfl, h.ob 4 _ rfl, hr]
  unfold St.keep
  dsimp only
  rw [hT, hO]
  rfl
theorem cfOp {l : List GOp} {i : Nat} {o : GOp} {S : St} {J : St → Prop} (ho : l[i]? = some o) (h : ∀ L1 : St → Prop, (∀ S', J S' → L1 S') → evG o S L1) : oB l[i]? fun g => evG g S J := by
  rw [ho]
  exact h J fun _ h => h
theorem rdy_wait {wt : List (List Nat)} {done : List Nat} {i : Nat} {l : List Nat} (h : rdyW wt done i = true) (hl : wt[i]? = some l) : ∀ j, l.contains j = true → done.contains j = true := fun j hj => by
  unfold rdyW at h
  rw [hl, Bool.and_eq_true] at h
  exact List.all_eq_true.1 h.2 j (by simpa using hj)
theorem rdy_lt {wt : List (List Nat)} {done : List Nat} {i : Nat} (h : rdyW wt done i = true) : i < wt.length := by
  unfold rdyW at h
  rw [Bool.and_eq_true] at h
  by_cases hi : i < wt.length
  · exact hi
  · rw [List.getElem?_eq_none (by omega)] at h
    cases h.2
theorem rdy_not {wt : List (List Nat)} {done : List Nat} {i : Nat} (h : rdyW wt done i = true) : done.contains i = false := by
  unfold rdyW at h
  rw [Bool.and_eq_true] at h
  simpa using h.1
end Go.Proofs.YtkoibcblmgmdmaaGreatDoor
