/-
  Layer 10, plain law: what a task of an operation keeps.
-/
import Derived.Test.YtenbagffdlljdaaK10b
namespace Go.Proofs.Ytenbagffdlljdaa
set_option linter.unusedSimpArgs false
set_option linter.unusedVariables false
open Go.RowKit Go.Maps
def lookA (o : OpV) : ActM := ⟨5, o.loc, zWord, zWord⟩
def swapA (o : OpV) (g : WordV) : ActM := ⟨6, o.loc, g, { g with val := (doA o g.val).1 }⟩
structure AtT (o : OpV) (s : AtmV) (y : TaskM atm) : Prop where
  code : y.code = some s
  op : s.op = o
  begun : s.begun = true
  live : y.live = !s.fin
  tries : 0 ≤ s.tries
  act : s.fin = false → (s.swapped = false ∧ s.tries = 0 ∧ y.act = lookA o) ∨ (s.swapped = true ∧ ∃ g, y.act = swapA o g ∧ (doA o g.val).1 ≠ g.val)
theorem at_start (o : OpV) : AtT o { newA o with begun := true } (startM (C := atm) (newA o)) :=
  ⟨rfl, rfl, rfl, rfl, Int.le_refl _, fun _ => .inl ⟨rfl, rfl, rfl⟩⟩
theorem give_live {C : Coder} {y : TaskM C} {s : C.St} (hl : y.live = true) (hc : y.code = some s) (g : GotV) : giveM y g = saidM { y with gots := y.gots ++ [g] } (C.next s g).1 (C.next s g).2.1 (C.next s g).2.2 := by
  unfold giveM
  rw [if_pos hl, hc]
inductive AtGo (o : OpV) (f : Int → WordV) (s : AtmV) (y : TaskM atm) (s' : AtmV) (y' : TaskM atm) : Prop
  | hit (ha : y.act = swapA o (f o.loc)) (hne : (doA o (f o.loc).val).1 ≠ (f o.loc).val) (hf : s'.fin = true) (hans : s'.answer = (f o.loc).val) (ht : s'.tries = s.tries + 1) (hd : y'.live = false) (hs : s.swapped = true)
  | same (hn : scHits f y.act = false) (he : (doA o (f o.loc).val).1 = (f o.loc).val) (hf : s'.fin = true) (hans : s'.answer = (doA o (f o.loc).val).2) (ht : s'.tries = if s.swapped = true then s.tries + 1 else s.tries) (hd : y'.live = false)
  | again (hn : scHits f y.act = false) (hne : (doA o (f o.loc).val).1 ≠ (f o.loc).val) (hf : s'.fin = false) (ha : y'.act = swapA o (f o.loc)) (ht : s'.tries = if s.swapped = true then s.tries + 1 else s.tries) (hd : y'.live = true) (hs : s'.swapped = true)
theorem at_give {o : OpV} {s : AtmV} {y : TaskM atm} (h : AtT o s y) (hl : y.live = true) (f : Int → WordV) : ∃ s', AtT o s' (giveM y (scGot f y.act)) ∧ AtGo o f s y s' (giveM y (scGot f y.act)) := by
  have hfin : s.fin = false := by have := h.live; rw [hl] at this; simpa using this.symm
  rw [give_live hl h.code]
  obtain ⟨op, begun, swapped, fin, tries, answer⟩ := s
  have ho := h.op
  have hb := h.begun
  have ht := h.tries
  have hact := h.act hfin
  simp only at ho hb hfin ht hact
  subst ho hb hfin
  have hloc : y.act.place = op.loc := by
    rcases hact with ⟨_, _, e⟩ | ⟨_, g, e, _⟩ <;> rw [e] <;> rfl
  by_cases hh : scHits f y.act = true
  · -- the swap goes through
    rcases hact with ⟨_, _, e⟩ | ⟨e1, g, e, hne⟩
    · rw [e] at hh; exact absurd hh (by unfold scHits lookA; simp)
    · have hg : f op.loc = g := by
        rw [e] at hh
        unfold scHits swapA at hh
        simp only [beq_self_eq_true, Bool.true_and] at hh
        have hh : weq (f op.loc) g = true := by simpa using hh
        exact weq_iff.1 hh
      subst hg e1
      have hgot : scGot f y.act = ⟨f op.loc, true⟩ := by
        rw [e]
        show (⟨f op.loc, weq (f op.loc) (f op.loc)⟩ : GotV) = _
        rw [weq_self]
      rw [hgot]
      have hnx : atmNext ⟨op, true, true, false, tries, answer⟩ ⟨f op.loc, true⟩ = (⟨op, true, true, true, tries + 1, (f op.loc).val⟩, zAct, true) := by
        unfold atmNext
        rw [if_neg (by simp), if_neg (by simp), if_pos ⟨rfl, rfl⟩]
      refine ⟨⟨op, true, true, true, tries + 1, (f op.loc).val⟩, ?_, .hit e hne rfl rfl rfl ?_ rfl⟩
      · show AtT op _ (saidM (C := atm) _ (atmNext _ _).1 (atmNext _ _).2.1 (atmNext _ _).2.2)
        rw [hnx]
        exact ⟨rfl, rfl, rfl, rfl, by show 0 ≤ tries + 1; omega, fun h => by cases h⟩
      · show (saidM (C := atm) _ (atmNext _ _).1 (atmNext _ _).2.1 (atmNext _ _).2.2).live = false
        rw [hnx]; rfl
  · have hh : scHits f y.act = false := by simpa using hh
    have hgot : ∃ b, scGot f y.act = ⟨f op.loc, b⟩ ∧ ¬ (swapped = true ∧ b = true) := by
      rcases hact with ⟨e1, _, e⟩ | ⟨e1, g, e, hne⟩
      · exact ⟨true, by rw [e]; rfl, by rw [e1]; simp⟩
      · refine ⟨weq (f op.loc) g, by rw [e]; rfl, ?_⟩
        rw [e] at hh
        unfold scHits swapA at hh
        simp only [beq_self_eq_true, Bool.true_and] at hh
        have hh : weq (f op.loc) g = false := by simpa using hh
        rw [hh]; simp
    obtain ⟨b, hgot, hsb⟩ := hgot
    rw [hgot]
    by_cases he : (doA op (f op.loc).val).1 = (f op.loc).val
    · have hnx : atmNext ⟨op, true, swapped, false, tries, answer⟩ ⟨f op.loc, b⟩ = (⟨op, true, swapped, true, if swapped = true then tries + 1 else tries, (doA op (f op.loc).val).2⟩, zAct, true) := by
        unfold atmNext
        rw [if_neg (by simp), if_neg (by simp), if_neg hsb, if_pos he]
      refine ⟨⟨op, true, swapped, true, if swapped = true then tries + 1 else tries, (doA op (f op.loc).val).2⟩, ?_, .same hh he rfl rfl rfl ?_⟩
      · show AtT op _ (saidM (C := atm) _ (atmNext _ _).1 (atmNext _ _).2.1 (atmNext _ _).2.2)
        rw [hnx]
        exact ⟨rfl, rfl, rfl, rfl, by show 0 ≤ (if swapped = true then tries + 1 else tries); split <;> omega, fun h => by cases h⟩
      · show (saidM (C := atm) _ (atmNext _ _).1 (atmNext _ _).2.1 (atmNext _ _).2.2).live = false
        rw [hnx]; rfl
    · have hnx : atmNext ⟨op, true, swapped, false, tries, answer⟩ ⟨f op.loc, b⟩ = (⟨op, true, true, false, if swapped = true then tries + 1 else tries, answer⟩, swapA op (f op.loc), false) := by
        unfold atmNext
        rw [if_neg (by simp), if_neg (by simp), if_neg hsb, if_neg he]; rfl
      refine ⟨⟨op, true, true, false, if swapped = true then tries + 1 else tries, answer⟩, ?_, .again hh he rfl ?_ rfl ?_ rfl⟩
      · show AtT op _ (saidM (C := atm) _ (atmNext _ _).1 (atmNext _ _).2.1 (atmNext _ _).2.2)
        rw [hnx]
        exact ⟨rfl, rfl, rfl, rfl, by show 0 ≤ (if swapped = true then tries + 1 else tries); split <;> omega, fun _ => .inr ⟨rfl, _, rfl, he⟩⟩
      · show (saidM (C := atm) _ (atmNext _ _).1 (atmNext _ _).2.1 (atmNext _ _).2.2).act = _
        rw [hnx]; rfl
      · show (saidM (C := atm) _ (atmNext _ _).1 (atmNext _ _).2.1 (atmNext _ _).2.2).live = true
        rw [hnx]; rfl
structure AtW (l : List OpV) (w : WorldM atm) : Prop where
  ok : ∃ n, WorldOk w n
  awake : 0 < w.m.mem.views.length
  places : w.m.mem.places.length = 2
  len : w.tasks.length = l.length
  ops : ∀ o ∈ l, checkA o = 0 ∧ (o.loc = 0 ∨ o.loc = 1)
  task : ∀ (i : Nat) (o : OpV) (y : TaskM atm), l[i]? = some o → w.tasks[i]? = some y → ∃ s, AtT o s y
theorem atT_act {o : OpV} {s : AtmV} {y : TaskM atm} (h : AtT o s y) (hl : y.live = true) : y.act.place = o.loc ∧ (y.act.op = 5 ∨ y.act.op = 6) := by
  have hfin : s.fin = false := by have := h.live; rw [hl] at this; simpa using this.symm
  rcases h.act hfin with ⟨_, _, e⟩ | ⟨_, g, e, _⟩
  · rw [e]; exact ⟨rfl, .inl rfl⟩
  · rw [e]; exact ⟨rfl, .inr rfl⟩
theorem atW_sc {l : List OpV} {w : WorldM atm} (h : AtW l w) : ∃ n, ScW w n := by
  obtain ⟨n, hn⟩ := h.ok
  refine ⟨n, hn, h.awake, fun y hy hl => ?_⟩
  obtain ⟨i, hi⟩ := List.getElem?_of_mem hy
  have hlt := (List.getElem?_eq_some_iff.1 hi).1
  obtain ⟨o, ho⟩ : ∃ o, l[i]? = some o := ⟨_, List.getElem?_eq_getElem (by rw [← h.len]; exact hlt)⟩
  obtain ⟨s, hs⟩ := h.task i o y ho hi
  obtain ⟨a1, a2⟩ := atT_act hs hl
  refine ⟨.inr a2, ?_⟩
  rw [a1]
  have := (h.ops o (List.mem_of_getElem? ho)).2
  unfold PlcB
  rw [h.places]; omega
theorem atW_begun {l : List OpV} {w0 w1 : WordV} (hl : l.length ≤ 8) (ho : ∀ o ∈ l, checkA o = 0 ∧ (o.loc = 0 ∨ o.loc = 1)) : AtW l (begunW l w0 w1) := by
  obtain ⟨h1, h2, h3, h4, _⟩ := begun_ok l w0 w1 hl
  have e : begunW l w0 w1 = ⟨machR l w0 w1, (codesA l).map (startM (C := atm)), List.replicate l.length false⟩ := by unfold begunW; rw [h2]
  refine ⟨⟨2, h1⟩, ?_, ?_, ?_, ho, fun i o y hi hy => ?_⟩
  · rw [e]; show 0 < (machR l w0 w1).mem.views.length; rw [h3]; omega
  · rw [e]; exact h4
  · rw [e]; simp [codesA]
  · rw [e] at hy
    simp only [codesA, List.map_map, List.getElem?_map, hi, Option.map_some, Option.some.injEq] at hy
    subst hy
    exact ⟨_, at_start o⟩
theorem atW_step {l : List OpV} {w : WorldM atm} (h : AtW l w) (p : PickV) (hp : p.kind ≠ 2) : AtW l (stepM w p).1 ∧
    ((stepM w p = (w, false) ∧ (p.kind = 0 → takesM w p.thread = false)) ∨
     (∃ (m : Nat) (o : OpV) (s s' : AtmV) (y y' : TaskM atm), p.kind = 0 ∧ p.thread = (m : Int) + 1 ∧ l[m]? = some o ∧ w.tasks[m]? = some y ∧ y.live = true ∧ stoppedM w m = false ∧ (stepM w p).2 = true ∧
       (stepM w p).1.tasks = w.tasks.set m y' ∧ (stepM w p).1.stopped = w.stopped ∧ (∀ q, Wd (stepM w p).1.m q = scSet (Wd w.m) y.act q) ∧ AtT o s y ∧ AtT o s' y' ∧ AtGo o (Wd w.m) s y s' y') ∨
     (p.kind = 1 ∧ (stepM w p).1.tasks = w.tasks ∧ (stepM w p).1.m = w.m)) := by
  obtain ⟨n, hs⟩ := atW_sc h
  have hsz := sc_size hs.ok p hp
  have hok := stepOk hs.ok p
  have hbase : ∀ T, (stepM w p).1.tasks = T → (∀ (i : Nat) (o : OpV) (y : TaskM atm), l[i]? = some o → T[i]? = some y → ∃ s, AtT o s y) → AtW l (stepM w p).1 := fun T hT hT2 =>
    ⟨⟨_, hok⟩, by rw [hsz.1]; exact h.awake, by rw [hsz.2.1]; exact h.places, by rw [hsz.2.2]; exact h.len, h.ops, by rw [hT]; exact hT2⟩
  rcases sc_step hs p hp with ⟨e, e2⟩ | ⟨m, y, h0, h1, h2, h3, h4, h5, h6, h7, h8⟩ | ⟨m, y, h0, h1, h2, h3, h4, h5⟩
  · exact ⟨by rw [e]; exact h, .inl ⟨e, e2⟩⟩
  · have hlt := (List.getElem?_eq_some_iff.1 h2).1
    obtain ⟨o, ho⟩ : ∃ o, l[m]? = some o := ⟨_, List.getElem?_eq_getElem (by rw [← h.len]; exact hlt)⟩
    obtain ⟨s, hT⟩ := h.task m o y ho h2
    obtain ⟨s', hT', hgo⟩ := at_give hT h3 (Wd w.m)
    refine ⟨hbase _ h6 fun i o' y' hi hy => ?_, .inr (.inl ⟨m, o, s, s', y, _, h0, h1, ho, h2, h3, h4, h5, h6, h7, h8, hT, hT', hgo⟩)⟩
    rw [List.getElem?_set] at hy
    split at hy
    · rename_i e
      subst e
      try rw [if_pos hlt] at hy
      rw [ho] at hi
      cases hi; cases hy
      exact ⟨s', hT'⟩
    · exact h.task i o' y' hi hy
  · have e : (stepM w p).1 = haltM w p.thread := by rw [h5]
    refine ⟨hbase w.tasks (by rw [e]; rfl) h.task, .inr (.inr ⟨h0, by rw [e]; rfl, by rw [e]; rfl⟩)⟩
theorem set_hit {o : OpV} {f : Int → WordV} {a : ActM} (ha : a = swapA o (f o.loc)) (p : Int) : scSet f a p = if p = o.loc then { f o.loc with val := (doA o (f o.loc).val).1 } else f p := by
  subst ha
  unfold scSet
  have hh : scHits f (swapA o (f o.loc)) = true := by
    unfold scHits swapA
    simp only [beq_self_eq_true, Bool.true_and, weq_self, Bool.or_true]
  by_cases hp : p = o.loc
  · rw [if_pos ⟨hp, hh⟩, if_pos hp]; rfl
  · rw [if_neg (fun h => hp h.1), if_neg hp]
theorem set_not {f : Int → WordV} {a : ActM} (h : scHits f a = false) (p : Int) : scSet f a p = f p := by
  unfold scSet
  rw [if_neg (by rw [h]; simp)]
end Go.Proofs.Ytenbagffdlljdaa
