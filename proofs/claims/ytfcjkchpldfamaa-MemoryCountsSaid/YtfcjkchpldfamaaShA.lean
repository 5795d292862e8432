/-
  The shadow machine: what is handed over; the operations that write one's own memory are told rightly.
-/
import Derived.Test.YtfcjkchpldfamaaSh9
namespace Go.Proofs.Ytfcjkchpldfamaa
set_option linter.unusedSimpArgs false
set_option linter.unusedVariables false
open Go.RowKit Go.Maps

section
variable {N : Nat} {w0 w w' : World} {H0 H H' : Hp} {S : St} {E : Env} {a : Act}

/-- A part is handed over: its block, if it has one, is frozen. -/
theorem Sim.frz (h : Sim N w0 H0 S E a w H) {i : Nat} {u : Value} {k : Nat} {ob : Option Nat} {x : Sh} (hl : lives S i) (hE : E i = some (u, k, ob)) (hx : x.pure = true)
    (hfp : ∀ e, x = .fp e 0 → k = 0 ∧ ∃ b0, ob = some b0 ∧ u = .pointer (some ⟨b0, 0, none⟩))
    (hr : match ob with | none => Rep H E0 x u | some b => ∃ o, w.heap[b]? = some o ∧ Rep (H.add b o) E0 x u) : ∃ H', Le H H' ∧ Sim N w0 H0 (S.setO i (.frz x)) E a w H' := by
  have hget : ∀ j o, getA (S.setO i (.frz x)).O j = some o → (j = i ∧ o = .frz x) ∨ (i ≠ j ∧ getA S.O j = some o) := fun j o hj => by
    simp only [St.setO, getA_put] at hj
    split at hj
    · rename_i e; cases hj; exact .inl ⟨e.symm, rfl⟩
    · rename_i e; exact .inr ⟨e, hj⟩
  have hap : ∀ j1 j2, j1 ≠ j2 → lives (S.setO i (.frz x)) j1 → lives (S.setO i (.frz x)) j2 → ∀ b u k u' k', E j1 = some (u, k, some b) → E j2 = some (u', k', some b) → False := by
    rintro j1 j2 hj ⟨o1, ho1, hl1⟩ ⟨o2, ho2, hl2⟩ b u k u' k' e1 e2
    rcases hget j1 o1 ho1 with ⟨rfl, rfl⟩ | ⟨n1, g1⟩
    · cases hl1
    rcases hget j2 o2 ho2 with ⟨rfl, rfl⟩ | ⟨n2, g2⟩
    · cases hl2
    exact h.ap _ _ hj ⟨o1, g1, hl1⟩ ⟨o2, g2, hl2⟩ b _ _ _ _ e1 e2
  cases ob with
  | none =>
    refine ⟨H, Le.refl _, h.grow, h.tm, fun j o hj => ?_, hap, h.fr, h.sz, h.df⟩
    rcases hget j o hj with ⟨rfl, rfl⟩ | ⟨_, hj⟩
    · exact ⟨u, k, none, hE, hr, hx, hfp⟩
    · exact h.ob j o hj
  | some b =>
    obtain ⟨o, ho, hr⟩ := hr
    obtain ⟨l1, l2, l3⟩ := h.live_lt hl hE
    have hle : Le H (H.add b o) := Hp.add_le l2
    refine ⟨H.add b o, hle, h.grow.add ho l1, fun t y hy => (h.tm t y hy).mono hle (ELe.refl _), fun j o' hj => ?_, hap, h.fr, h.sz, h.df⟩
    rcases hget j o' hj with ⟨rfl, rfl⟩ | ⟨hne, hj⟩
    · exact ⟨u, k, some b, hE, hr, hx, hfp⟩
    · have hO := h.ob j o' hj
      have hno : o'.live = true → ∀ u k, E j ≠ some (u, k, some b) := fun hlv u' k' e' => h.ap i j hne hl ⟨o', hj, hlv⟩ b _ _ _ _ hE e'
      have hkeep : ∀ g, g ≠ b → H.add b o g = H g := fun g hg => by unfold Hp.add; rw [if_neg hg]
      cases o' with
      | box t cs =>
        obtain ⟨b', vs, h1, h2, h3, h4, h5, h6⟩ := hO
        exact ⟨b', vs, h1, h2, (hkeep b' (fun e => by subst e; exact hno rfl _ _ h1)).trans h3, h4, h5.mono hle (ELe.refl _), h6⟩
      | row e k' es =>
        obtain ⟨u', ob', xs, h1, hk, h2, h3⟩ := hO
        refine ⟨u', ob', xs, h1, hk, h2.mono hle, h3.imp id ?_⟩
        rintro ⟨g', cap, cur, a1, a2, a3, a4, a5⟩
        subst a1
        exact ⟨g', cap, cur, rfl, a2, a3, (hkeep g' (fun e => by subst e; exact hno rfl _ _ h1)).trans a4, a5⟩
      | map kt N f =>
        obtain ⟨b', o2, F, h1, h2, h3, h4, h5, h6, h7, h8⟩ := hO
        exact ⟨b', o2, F, h1, h2, (hkeep b' (fun e => by subst e; exact hno rfl _ _ h1)).trans h3, h4, h5, h6, h7, fun j s u a b => (h8 j s u a b).mono hle (ELe.refl _)⟩
      | iter f left cnt cur =>
        obtain ⟨r, ob2, h1, h2, h3, h4, h5, h6⟩ := hO
        exact ⟨r, ob2, h1, h2, (hkeep r (fun e => by subst e; exact hno rfl _ _ h1)).trans h3, h4, h5.le hle, fun j s e => (h6 j s e).le hle⟩
      | frz y => obtain ⟨u', k', b', h1, h2, h3, h4⟩ := hO; exact ⟨u', k', b', h1, h2.mono hle (ELe.refl _), h3, h4⟩

theorem Sim.frzRow (h : Sim N w0 H0 S E a w H) (i : Nat) : ∃ H', Le H H' ∧ Sim N w0 H0 (S.frzRow i) E a w H' := by
  unfold St.frzRow
  split
  · rename_i e k es hg
    obtain ⟨u, ob, xs, h1, hk, h2, h3⟩ := h.ob _ _ hg
    refine h.frz ⟨_, hg, rfl⟩ h1 rfl (fun e he => by cases he) ?_
    rcases h3 with ⟨rfl, rfl, ad, rfl⟩ | ⟨g, cap, cur, rfl, rfl, a3, a4, a5, a6, a7, a7', a8, a9⟩
    · cases h2
      exact .sl .nil rfl (Nat.le_refl _) (Nat.zero_le _) ⟨fun _ => rfl, fun _ _ => rfl⟩ (fun _ => rfl) (fun j u hu => by simp at hu)
    · refine ⟨_, a5, .sl (h2.mono (Hp.add_le a4)) rfl a6 a7 ⟨(fun e => (by cases e)), fun _ h => a7' (List.eq_nil_of_length_eq_zero h)⟩ (fun e => by cases e) (fun j u hu => ⟨g, 0, cur, e, (0, 0), rfl, Hp.add_at _ _ _, ?_⟩)⟩
      rw [← a9, List.getElem?_take] at hu
      split at hu
      · simpa using hu
      · cases hu
  · rename_i kt M f hg
    obtain ⟨b, o, F, h1, h2, h3, h4, h5, h6, h7, h8⟩ := h.ob _ _ hg
    refine h.frz ⟨_, hg, rfl⟩ h1 rfl (fun e he => by cases he) ⟨o, h4, ?_⟩
    exact .mp (Hp.add_at _ _ _) h5 h6 h7 (fun j s u a b => (h8 j s u a b).mono (Hp.add_le h3) (ELe.refl _))
  · exact ⟨H, Le.refl _, h⟩
theorem Sim.frzCells : ∀ (cs : List Sh) {S : St} {H : Hp}, Sim N w0 H0 S E a w H → ∃ H', Le H H' ∧ Sim N w0 H0 (S.frzCells cs) E a w H'
  | [], S, H, h => ⟨H, Le.refl _, h⟩
  | .own i :: l, S, H, h => by
    obtain ⟨H1, l1, h1⟩ := h.frzRow i
    obtain ⟨H2, l2, h2⟩ := Sim.frzCells l h1
    exact ⟨H2, l1.trans l2, h2⟩
  | .v _ :: l, S, H, h => Sim.frzCells l h
  | .agg _ :: l, S, H, h => Sim.frzCells l h
  | .tup _ :: l, S, H, h => Sim.frzCells l h
  | .sl .. :: l, S, H, h => Sim.frzCells l h
  | .mp .. :: l, S, H, h => Sim.frzCells l h
  | .fn .. :: l, S, H, h => Sim.frzCells l h
  | .ifc .. :: l, S, H, h => Sim.frzCells l h
  | .fp .. :: l, S, H, h => Sim.frzCells l h
  | .any :: l, S, H, h => Sim.frzCells l h
  | .ptr .. :: l, S, H, h => Sim.frzCells l h
theorem frzRow_box {S : St} {i j : Nat} {t : TypeId} {cs : List Sh} (h : getA S.O j = some (.box t cs)) : getA (S.frzRow i).O j = some (.box t cs) := by
  unfold St.frzRow
  split
  · rename_i hg; simp only [St.setO, getA_put]; rw [if_neg (fun e => by subst e; rw [h] at hg; cases hg)]; exact h
  · rename_i hg; simp only [St.setO, getA_put]; rw [if_neg (fun e => by subst e; rw [h] at hg; cases hg)]; exact h
  · exact h
theorem frzCells_box {j : Nat} {t : TypeId} {cs : List Sh} : ∀ (l : List Sh) {S : St}, getA S.O j = some (.box t cs) → getA (S.frzCells l).O j = some (.box t cs)
  | [], _, h => h
  | .own i :: l, S, h => frzCells_box l (frzRow_box h)
  | .v _ :: l, S, h => frzCells_box l h
  | .agg _ :: l, S, h => frzCells_box l h
  | .tup _ :: l, S, h => frzCells_box l h
  | .sl .. :: l, S, h => frzCells_box l h
  | .mp .. :: l, S, h => frzCells_box l h
  | .fn .. :: l, S, h => frzCells_box l h
  | .ifc .. :: l, S, h => frzCells_box l h
  | .fp .. :: l, S, h => frzCells_box l h
  | .any :: l, S, h => frzCells_box l h
  | .ptr .. :: l, S, h => frzCells_box l h
theorem Sim.frzBox (h : Sim N w0 H0 S E a w H) (i : Nat) : ∃ H', Le H H' ∧ Sim N w0 H0 (S.frzBox i) E a w H' := by
  unfold St.frzBox
  split
  · rename_i t cs hg
    obtain ⟨H1, l1, h1⟩ := h.frzCells cs
    have hg1 := frzCells_box cs hg
    split
    · rename_i ys hy
      obtain ⟨b, vs, e1, e2, e3, e4, e5, e6⟩ := h1.ob _ _ hg1
      obtain ⟨r1, r2, r3⟩ := argL_rep h1.ob e5 hy
      obtain ⟨H2, l2, h2⟩ := h1.frz (x := .fp ys 0) ⟨_, hg1, rfl⟩ e1 rfl (fun e he => ⟨rfl, b, rfl, rfl⟩) ⟨_, e4, by
        have := Rep.fp (H := H1.add b (.cells vs.toArray t (0, 0))) (E := E0) (off := 0) (b := b) (o := 0) (r1.mono (Hp.add_le e3) (ELe.refl _)) (r3 e6) (fun j u hu => ⟨_, _, _, Hp.add_at _ _ _, by simpa using hu⟩)
        simpa using this⟩
      exact ⟨H2, l1.trans l2, h2⟩
    · exact ⟨H1, l1, h1⟩
  · exact ⟨H, Le.refl _, h⟩
theorem Sim.frzSh (h : Sim N w0 H0 S E a w H) (x : Sh) : ∃ H', Le H H' ∧ Sim N w0 H0 (S.frzSh x) E a w H' := by
  cases x with
  | own i => exact h.frzRow i
  | ptr i _ _ => exact h.frzBox i
  | agg cs => exact h.frzCells cs
  | _ => exact ⟨H, Le.refl _, h⟩
theorem Sim.frzOpds : ∀ (l : List Operand) {S : St} {H : Hp}, Sim N w0 H0 S E a w H → ∃ H', Le H H' ∧ Sim N w0 H0 (S.frzOpds l) E a w H'
  | [], S, H, h => ⟨H, Le.refl _, h⟩
  | x :: l, S, H, h => by
    unfold St.frzOpds
    split
    · rename_i s _
      obtain ⟨H1, l1, h1⟩ := h.frzSh s
      obtain ⟨H2, l2, h2⟩ := Sim.frzOpds l h1
      exact ⟨H2, l1.trans l2, h2⟩
    · exact Sim.frzOpds l h

theorem RepEs.of_get {k : Nat} : ∀ (es : List (List Sh)) (xs : List Value), xs.length = es.length * k →
    (∀ i e, es[i]? = some e → ∃ vs, vs.length = k ∧ RepL H E0 e vs ∧ e.all Sh.one = true ∧ ∀ j u, vs[j]? = some u → xs[i * k + j]? = some u) → RepEs H k es xs
  | [], xs, hl, _ => by simp at hl; subst hl; exact .nil
  | e :: es, xs, hl, h => by
    simp only [List.length_cons, Nat.add_mul, Nat.one_mul] at hl
    obtain ⟨vs, h1, h2, h3, h4⟩ := h 0 e rfl
    have hv : xs.take k = vs := by
      apply List.ext_getElem?
      intro j
      rcases Nat.lt_or_ge j k with hj | hj
      · have := h4 j vs[j] (by simp)
        simp at this
        rw [List.getElem?_take, if_pos hj, this]; simp
      · rw [List.getElem?_eq_none (by simp; omega), List.getElem?_eq_none (by omega)]
    have ih := RepEs.of_get (k := k) es (xs.drop k) (by simp [hl]) (fun i e' he => by
      obtain ⟨vs', a1, a2, a3, a4⟩ := h (i + 1) e' (by simpa using he)
      refine ⟨vs', a1, a2, a3, fun j u hu => ?_⟩
      have := a4 j u hu
      rw [List.getElem?_drop, ← this]; congr 1; rw [Nat.add_mul]; omega)
    have e0 : xs = vs ++ xs.drop k := by rw [← hv, List.take_append_drop]
    rw [e0]
    exact .cons h2 h1 h3 ih
end
end Go.Proofs.Ytfcjkchpldfamaa
