/-
  AtomRuns: a region of many orders that makes two variables of one type.
-/
import Derived.Test.YtenbagffdlljdaaK10l
namespace Go.Proofs.Ytenbagffdlljdaa
set_option linter.unusedSimpArgs false
set_option linter.unusedVariables false
open Go.RowKit Go.Maps
theorem getA_memN {α : Type} : ∀ {l : List (Nat × α)} {t : Nat} {v : α}, getA l t = some v → (t, v) ∈ l
  | (k, q) :: l, t, v, hu => by
    simp only [getA] at hu
    split at hu
    · rename_i e2; cases hu; subst e2; exact List.mem_cons_self ..
    · exact List.mem_cons_of_mem _ (getA_memN hu)
theorem getA_putA {α : Type} (l : List (Nat × α)) (t u : Nat) (s : α) : getA ((t, s) :: delA l t) u = if t = u then some s else getA l u := getA_put l t u s
abbrev zW : List Sh := [sI 0, sU 0, sU 0]
structure RgA (Bl : List (Nat × Sh)) (Rl : List (Nat × (Nat × Sh))) (nx : Nat) (O : List (Nat × Ob)) (w' : WorldM atm) (o : OpV) (x z : WordV) (done : List Nat) (S : St) : Prop where
  base : ∀ t s, getA Bl t = some s → getA S.T t = some s
  got : ∀ t j s, getA Rl t = some (j, s) → done.contains j = true → getA S.T t = some s
  old : ∀ e, e < nx → getA S.O e = getA O e
  o1 : getA S.O (nx + 1) = some (boxW w')
  o2 : getA S.O (nx + 2) = some (.box 94 (eOp o))
  nn : S.n = nx + 3 + (if done.contains 8 = true then 1 else 0) + (if done.contains 9 = true then 1 else 0)
  b8 : done.contains 8 = true → ∃ a, getA S.T 14 = some (.ptr a 0 0) ∧ nx + 3 ≤ a ∧ a < S.n ∧ getA S.O a = some (.box 27 (if done.contains 10 = true then eWord x else zW))
  b9 : done.contains 9 = true → ∃ a, getA S.T 15 = some (.ptr a 0 0) ∧ nx + 3 ≤ a ∧ a < S.n ∧ getA S.O a = some (.box 27 (if done.contains 11 = true then eWord z else zW))
  w10 : done.contains 10 = true → done.contains 8 = true
  w11 : done.contains 11 = true → done.contains 9 = true
  ne : done.contains 8 = true → done.contains 9 = true → ∀ a, getA S.T 14 = some (.ptr a 0 0) → getA S.T 15 ≠ some (.ptr a 0 0)
section
variable {Bl : List (Nat × Sh)} {Rl : List (Nat × (Nat × Sh))} {nx : Nat} {O : List (Nat × Ob)} {w' : WorldM atm} {o : OpV} {x z : WordV} {done : List Nat} {S : St}
theorem cons_c {i j : Nat} (h : j ≠ i) (done : List Nat) : (i :: done).contains j = done.contains j := by
  rw [List.contains_cons, show (j == i) = false by simpa using h, Bool.false_or]
theorem cons_s (i : Nat) (done : List Nat) : (i :: done).contains i = true := by simp
theorem RgA.put (h : RgA Bl Rl nx O w' o x z done S) {i t : Nat} {s : Sh} (hi : getA Rl t = some (i, s)) (hB : getA Bl t = none) (hR : (Rl.all fun r => r.2.1 != i || r.1 == t) = true) (h8 : i < 8) (h14 : t ≠ 14) (h15 : t ≠ 15) : RgA Bl Rl nx O w' o x z (i :: done) (S.put t s) := by
  have c8 := cons_c (i := i) (j := 8) (by omega) done
  have c9 := cons_c (i := i) (j := 9) (by omega) done
  have c10 := cons_c (i := i) (j := 10) (by omega) done
  have c11 := cons_c (i := i) (j := 11) (by omega) done
  have g14 : getA (S.put t s).T 14 = getA S.T 14 := by show getA ((t, s) :: delA S.T t) 14 = _; rw [getA_putA, if_neg h14]
  have g15 : getA (S.put t s).T 15 = getA S.T 15 := by show getA ((t, s) :: delA S.T t) 15 = _; rw [getA_putA, if_neg h15]
  refine ⟨fun u v hu => ?_, fun u j v hu hj => ?_, h.old, h.o1, h.o2, ?_, ?_, ?_, (by rw [c8, c10]; exact h.w10), (by rw [c9, c11]; exact h.w11), ?_⟩
  · show getA ((t, s) :: delA S.T t) u = _
    rw [getA_putA, if_neg (fun e => by subst e; rw [hB] at hu; cases hu)]
    exact h.base u v hu
  · show getA ((t, s) :: delA S.T t) u = _
    rw [getA_putA]
    by_cases e : t = u
    · subst e
      rw [hi] at hu
      cases hu
      exact if_pos rfl
    · rw [if_neg e]
      have hji : j ≠ i := fun e2 => by
        subst e2
        have h9 := List.all_eq_true.1 hR _ (getA_memN hu)
        simp at h9
        exact e h9.symm
      rw [cons_c hji] at hj
      exact h.got u j v hu hj
  · rw [c8, c9]; exact h.nn
  · rw [c8, c10, g14]; exact h.b8
  · rw [c9, c11, g15]; exact h.b9
  · rw [c8, c9, g14, g15]; exact h.ne
theorem RgA.n_le (h : RgA Bl Rl nx O w' o x z done S) : nx + 3 ≤ S.n ∧ S.n ≤ nx + 5 := by
  have := h.nn
  constructor
  · rw [this]; split <;> split <;> omega
  · rw [this]; split <;> split <;> omega
theorem RgA.alc8 (h : RgA Bl Rl nx O w' o x z done S) (h8 : done.contains 8 = false) (hB : getA Bl 14 = none) (hR : getA Rl 14 = none) (hRl : (Rl.all fun r => r.2.1 != 8) = true) :
    RgA Bl Rl nx O w' o x z (8 :: done) ((S.newO (.box 27 zW)).put 14 (.ptr S.n 0 0)) := by
  have h10 : done.contains 10 = false := by
    cases e : done.contains 10 with
    | false => rfl
    | true => rw [h.w10 e] at h8; cases h8
  have hn := h.n_le
  have gT : ∀ u, u ≠ 14 → getA ((S.newO (.box 27 zW)).put 14 (.ptr S.n 0 0)).T u = getA S.T u := fun u hu => by show getA ((14, _) :: delA S.T 14) u = _; rw [getA_putA, if_neg (fun e => hu e.symm)]
  have gO : ∀ e, e < S.n → getA ((S.newO (.box 27 zW)).put 14 (.ptr S.n 0 0)).O e = getA S.O e := fun e he => by show getA ((S.n, _) :: S.O) e = _; simp only [getA]; rw [if_neg (by omega)]
  refine ⟨fun u v hu => ?_, fun u j v hu hj => ?_, fun e he => ?_, ?_, ?_, ?_, fun _ => ?_, fun h9 => ?_, fun _ => cons_s _ _, (by rw [cons_c (by decide), cons_c (by decide)]; exact h.w11), fun _ h9 a ha hb => ?_⟩
  · rw [gT u (fun e => by subst e; rw [hB] at hu; cases hu)]; exact h.base u v hu
  · rw [gT u (fun e => by subst e; rw [hR] at hu; cases hu)]
    have hj8 : j ≠ 8 := fun e => by
      have h9 := List.all_eq_true.1 hRl _ (getA_memN hu)
      simp at h9
      exact h9 e
    rw [cons_c hj8] at hj
    exact h.got u j v hu hj
  · rw [gO e (by omega)]; exact h.old e he
  · rw [gO _ (by omega)]; exact h.o1
  · rw [gO _ (by omega)]; exact h.o2
  · have := h.nn
    rw [cons_s, cons_c (by decide), if_pos rfl]
    rw [h8] at this
    show S.n + 1 = _
    rw [this]
    simp only [Bool.false_eq_true, if_false]; try omega
  · refine ⟨S.n, ?_, hn.1, Nat.lt_succ_self _, ?_⟩
    · show getA ((14, _) :: delA S.T 14) 14 = _; rw [getA_putA, if_pos rfl]
    · rw [cons_c (by decide), h10]
      show getA ((S.n, _) :: S.O) S.n = _
      simp [getA]
  · rw [cons_c (by decide)] at h9
    obtain ⟨a, q1, q2, q3, q4⟩ := h.b9 h9
    exact ⟨a, by rw [gT _ (by decide)]; exact q1, q2, Nat.lt_succ_of_lt q3, by rw [gO _ q3, cons_c (by decide)]; exact q4⟩
  · rw [cons_c (by decide)] at h9
    obtain ⟨a', q1, q2, q3, q4⟩ := h.b9 h9
    have e1 : getA ((S.newO (.box 27 zW)).put 14 (.ptr S.n 0 0)).T 14 = some (.ptr S.n 0 0) := by show getA ((14, _) :: delA S.T 14) 14 = _; rw [getA_putA, if_pos rfl]
    rw [e1] at ha
    cases ha
    rw [gT _ (by decide), q1] at hb
    cases hb
    omega
theorem RgA.alc9 (h : RgA Bl Rl nx O w' o x z done S) (h9' : done.contains 9 = false) (hB : getA Bl 15 = none) (hR : getA Rl 15 = none) (hRl : (Rl.all fun r => r.2.1 != 9) = true) :
    RgA Bl Rl nx O w' o x z (9 :: done) ((S.newO (.box 27 zW)).put 15 (.ptr S.n 0 0)) := by
  have h11 : done.contains 11 = false := by
    cases e : done.contains 11 with
    | false => rfl
    | true => rw [h.w11 e] at h9'; cases h9'
  have hn := h.n_le
  have gT : ∀ u, u ≠ 15 → getA ((S.newO (.box 27 zW)).put 15 (.ptr S.n 0 0)).T u = getA S.T u := fun u hu => by show getA ((15, _) :: delA S.T 15) u = _; rw [getA_putA, if_neg (fun e => hu e.symm)]
  have gO : ∀ e, e < S.n → getA ((S.newO (.box 27 zW)).put 15 (.ptr S.n 0 0)).O e = getA S.O e := fun e he => by show getA ((S.n, _) :: S.O) e = _; simp only [getA]; rw [if_neg (by omega)]
  refine ⟨fun u v hu => ?_, fun u j v hu hj => ?_, fun e he => ?_, ?_, ?_, ?_, fun h8 => ?_, fun _ => ?_, (by rw [cons_c (by decide), cons_c (by decide)]; exact h.w10), fun _ => cons_s _ _, fun h8 _ a ha hb => ?_⟩
  · rw [gT u (fun e => by subst e; rw [hB] at hu; cases hu)]; exact h.base u v hu
  · rw [gT u (fun e => by subst e; rw [hR] at hu; cases hu)]
    have hj8 : j ≠ 9 := fun e => by
      have h9 := List.all_eq_true.1 hRl _ (getA_memN hu)
      simp at h9
      exact h9 e
    rw [cons_c hj8] at hj
    exact h.got u j v hu hj
  · rw [gO e (by omega)]; exact h.old e he
  · rw [gO _ (by omega)]; exact h.o1
  · rw [gO _ (by omega)]; exact h.o2
  · have := h.nn
    rw [cons_s, cons_c (by decide), if_pos rfl]
    rw [h9'] at this
    show S.n + 1 = _
    rw [this]
    simp only [Bool.false_eq_true, if_false]; try omega
  · rw [cons_c (by decide)] at h8
    obtain ⟨a, q1, q2, q3, q4⟩ := h.b8 h8
    exact ⟨a, by rw [gT _ (by decide)]; exact q1, q2, Nat.lt_succ_of_lt q3, by rw [gO _ q3, cons_c (by decide)]; exact q4⟩
  · refine ⟨S.n, ?_, hn.1, Nat.lt_succ_self _, ?_⟩
    · show getA ((15, _) :: delA S.T 15) 15 = _; rw [getA_putA, if_pos rfl]
    · rw [cons_c (by decide), h11]
      show getA ((S.n, _) :: S.O) S.n = _
      simp [getA]
  · rw [cons_c (by decide)] at h8
    obtain ⟨a', q1, q2, q3, q4⟩ := h.b8 h8
    have e1 : getA ((S.newO (.box 27 zW)).put 15 (.ptr S.n 0 0)).T 15 = some (.ptr S.n 0 0) := by show getA ((15, _) :: delA S.T 15) 15 = _; rw [getA_putA, if_pos rfl]
    rw [gT _ (by decide), q1] at ha
    cases ha
    rw [e1] at hb
    cases hb
    omega
theorem RgA.sto10 (h : RgA Bl Rl nx O w' o x z done S) (h8 : done.contains 8 = true) (h9 : done.contains 9 = true) {a : Nat} (ha : getA S.T 14 = some (.ptr a 0 0)) (hRl : (Rl.all fun r => r.2.1 != 10) = true) : RgA Bl Rl nx O w' o x z (10 :: done) (S.setO a (.box 27 (eWord x))) := by
  obtain ⟨a', q1, q2, q3, q4⟩ := h.b8 h8
  rw [ha] at q1; cases q1
  have gO : ∀ e, e ≠ a → getA (S.setO a (.box 27 (eWord x))).O e = getA S.O e := fun e he => by show getA ((a, _) :: delA S.O a) e = _; rw [getA_putA, if_neg (fun e' => he e'.symm)]
  refine ⟨h.base, fun u j v hu hj => ?_, fun e he => ?_, ?_, ?_, ?_, fun _ => ⟨a, ha, q2, q3, ?_⟩, fun _ => ?_, fun _ => by rw [cons_c (by decide)]; exact h8, (by rw [cons_c (by decide), cons_c (by decide)]; exact h.w11), fun _ _ => h.ne h8 h9⟩
  · have hj8 : j ≠ 10 := fun e => by
      have h9 := List.all_eq_true.1 hRl _ (getA_memN hu)
      simp at h9
      exact h9 e
    rw [cons_c hj8] at hj
    exact h.got u j v hu hj
  · rw [gO e (by omega)]; exact h.old e he
  · rw [gO _ (by omega)]; exact h.o1
  · rw [gO _ (by omega)]; exact h.o2
  · rw [cons_c (by decide), cons_c (by decide)]; exact h.nn
  · rw [cons_s, if_pos rfl]
    show getA ((a, _) :: delA S.O a) a = _
    rw [getA_putA, if_pos rfl]
  · obtain ⟨b, r1, r2, r3, r4⟩ := h.b9 h9
    refine ⟨b, r1, r2, r3, ?_⟩
    rw [gO b (fun e => by subst e; exact h.ne h8 h9 _ ha r1), cons_c (by decide)]
    exact r4
theorem RgA.sto11 (h : RgA Bl Rl nx O w' o x z done S) (h8 : done.contains 8 = true) (h9 : done.contains 9 = true) {a : Nat} (ha : getA S.T 15 = some (.ptr a 0 0)) (hRl : (Rl.all fun r => r.2.1 != 11) = true) : RgA Bl Rl nx O w' o x z (11 :: done) (S.setO a (.box 27 (eWord z))) := by
  obtain ⟨a', q1, q2, q3, q4⟩ := h.b9 h9
  rw [ha] at q1; cases q1
  have gO : ∀ e, e ≠ a → getA (S.setO a (.box 27 (eWord z))).O e = getA S.O e := fun e he => by show getA ((a, _) :: delA S.O a) e = _; rw [getA_putA, if_neg (fun e' => he e'.symm)]
  refine ⟨h.base, fun u j v hu hj => ?_, fun e he => ?_, ?_, ?_, ?_, fun _ => ?_, fun _ => ⟨a, ha, q2, q3, ?_⟩, (by rw [cons_c (by decide), cons_c (by decide)]; exact h.w10), fun _ => by rw [cons_c (by decide)]; exact h9, fun _ _ => h.ne h8 h9⟩
  · have hj8 : j ≠ 11 := fun e => by
      have h9 := List.all_eq_true.1 hRl _ (getA_memN hu)
      simp at h9
      exact h9 e
    rw [cons_c hj8] at hj
    exact h.got u j v hu hj
  · rw [gO e (by omega)]; exact h.old e he
  · rw [gO _ (by omega)]; exact h.o1
  · rw [gO _ (by omega)]; exact h.o2
  · rw [cons_c (by decide), cons_c (by decide)]; exact h.nn
  · obtain ⟨b, r1, r2, r3, r4⟩ := h.b8 h8
    refine ⟨b, r1, r2, r3, ?_⟩
    rw [gO b (fun e => by subst e; exact h.ne h8 h9 _ r1 ha), cons_c (by decide)]
    exact r4
  · rw [cons_s, if_pos rfl]
    show getA ((a, _) :: delA S.O a) a = _
    rw [getA_putA, if_pos rfl]
structure RgE (nx : Nat) (O : List (Nat × Ob)) (w' : WorldM atm) (o : OpV) (x z : WordV) (O1 : List (Nat × Ob)) (a b : Nat) : Prop where
  old : ∀ e, e < nx → getA O1 e = getA O e
  o1 : getA O1 (nx + 1) = some (boxW w')
  o2 : getA O1 (nx + 2) = some (.box 94 (eOp o))
  a1 : nx + 3 ≤ a
  a2 : a < nx + 5
  b1 : nx + 3 ≤ b
  b2 : b < nx + 5
  oa : getA O1 a = some (.box 27 (eWord x))
  ob : getA O1 b = some (.box 27 (eWord z))
theorem RgA.fin (h : RgA Bl Rl nx O w' o x z done S) (hall : ∀ i, i < 12 → done.contains i = true) : ∃ a b, getA S.T 14 = some (.ptr a 0 0) ∧ getA S.T 15 = some (.ptr b 0 0) ∧ S.n = nx + 5 ∧ RgE nx O w' o x z (srtO S.O) a b := by
  obtain ⟨a, p1, p2, p3, p4⟩ := h.b8 (hall 8 (by decide))
  obtain ⟨b, q1, q2, q3, q4⟩ := h.b9 (hall 9 (by decide))
  have hn := h.nn
  rw [hall 8 (by decide), hall 9 (by decide), if_pos rfl] at hn
  rw [hall 10 (by decide), if_pos rfl] at p4
  rw [hall 11 (by decide), if_pos rfl] at q4
  refine ⟨a, b, p1, q1, hn, ⟨fun e he => by rw [getA_srtO]; exact h.old e he, by rw [getA_srtO]; exact h.o1, by rw [getA_srtO]; exact h.o2, p2, by omega, q2, by omega, by rw [getA_srtO]; exact p4, by rw [getA_srtO]; exact q4⟩⟩
end
end Go.Proofs.Ytenbagffdlljdaa
