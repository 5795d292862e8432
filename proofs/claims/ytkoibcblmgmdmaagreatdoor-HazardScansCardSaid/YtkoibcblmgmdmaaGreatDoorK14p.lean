/-
  Layer 14, plain law: what the codes of these laws keep under every schedule.
-/
import Derived.Test.YtkoibcblmgmdmaaGreatDoorK14a
import Derived.Test.YtkoibcblmgmdmaaGreatDoorK9
namespace Go.Proofs.YtkoibcblmgmdmaaGreatDoor
set_option linter.unusedSimpArgs false
set_option linter.unusedVariables false
open Go.RowKit Go.Maps
structure DoH where
  kind : Int
  cell : Int
  n : Int
abbrev planH : LayV := ⟨3, 2, 0⟩
def hazP (i : Nat) : Int := atL planH 1 i 1
def celN (c : Nat) : Int := atL planH 3 c 0
def celP (d : DoH) : Int := atL planH 3 (d.cell % 2) 0
theorem hazP_inj {t u : Nat} (h : t < 3) (h' : u < 3) (e : hazP t = hazP u) : t = u := by
  match t, h, u, h' with
  | 0, _, 0, _ => rfl
  | 0, _, 1, _ => revert e; decide
  | 0, _, 2, _ => revert e; decide
  | 1, _, 0, _ => revert e; decide
  | 1, _, 1, _ => rfl
  | 1, _, 2, _ => revert e; decide
  | 2, _, 0, _ => revert e; decide
  | 2, _, 1, _ => revert e; decide
  | 2, _, 2, _ => rfl
theorem hazP_in {t : Nat} (h : t < 3) : 0 ≤ hazP t ∧ hazP t < 376 := by
  match t, h with
  | 0, _ => decide
  | 1, _ => decide
  | 2, _ => decide
theorem celP_two (d : DoH) : celP d = celN 0 ∨ celP d = celN 1 := by
  have h : d.cell % 2 = 0 ∨ d.cell % 2 = 1 := by omega
  unfold celP
  rcases h with h | h
  · rw [h]; exact .inl rfl
  · rw [h]; exact .inr rfl
theorem celP_in (d : DoH) : 0 ≤ celP d ∧ celP d < 376 := by
  rcases celP_two d with h | h <;> rw [h] <;> decide
theorem hazP_cel {t : Nat} (h : t < 3) (d : DoH) : hazP t ≠ celP d := by
  rcases celP_two d with e | e <;> rw [e]
  · match t, h with
    | 0, _ => decide
    | 1, _ => decide
    | 2, _ => decide
  · match t, h with
    | 0, _ => decide
    | 1, _ => decide
    | 2, _ => decide
def opP (d : DoH) : OpV := ⟨2, celP d, d.n⟩
theorem doA_put (d : DoH) (v : Int) : doA (opP d) v = (d.n, v) := by
  have hc := celP_in d
  have h : checkA (opP d) = 0 := by
    unfold checkA opP
    rw [if_neg (by simp), if_neg (by simp only; omega), if_neg (by simp)]
  unfold doA
  rw [if_pos h]
  unfold mkA opP
  rw [if_neg (by simp), if_neg (by simp), if_pos rfl]
def finH : HzV → Bool
  | .prot s => s.fin
  | .clr s => decide (1 < s.pt)
  | .scan s => s.fin
  | .put s => s.fin
def codeH (i : Nat) (d : DoH) : HzV := if d.kind % 4 = 0 then .prot ⟨celP d, hazP i, zWord, false, .begin⟩ else if d.kind % 4 = 1 then .clr ⟨hazP i, 0⟩ else if d.kind % 4 = 2 then .scan ⟨planH, 0, [], false⟩ else .put (newA (opP d))
inductive HzS (d : DoH) (i : Nat) (f : Int → WordV) : HzV → ActM → Prop
  | found {w} (k : d.kind % 4 = 0) : HzS d i f (.prot ⟨celP d, hazP i, w, false, .found⟩) ⟨5, celP d, zWord, zWord⟩
  | held {w} (k : d.kind % 4 = 0) : HzS d i f (.prot ⟨celP d, hazP i, w, false, .held⟩) ⟨4, hazP i, zWord, ⟨w.val, 0, 0⟩⟩
  | again {w} (k : d.kind % 4 = 0) (h : (f (hazP i)).val = w.val) : HzS d i f (.prot ⟨celP d, hazP i, w, false, .again⟩) ⟨5, celP d, zWord, zWord⟩
  | pdone {w p a} (k : d.kind % 4 = 0) (h : (f (hazP i)).val = w.val) : HzS d i f (.prot ⟨celP d, hazP i, w, true, p⟩) a
  | clr (k : d.kind % 4 = 1) : HzS d i f (.clr ⟨hazP i, 1⟩) ⟨4, hazP i, zWord, zWord⟩
  | cdone {a} (k : d.kind % 4 = 1) (h : (f (hazP i)).val = 0) : HzS d i f (.clr ⟨hazP i, 2⟩) a
  | scan {l} (k : d.kind % 4 = 2) (m : Nat) (hm : m < 3) : HzS d i f (.scan ⟨planH, (m : Int) + 1, l, false⟩) ⟨5, hazP m, zWord, zWord⟩
  | sdone {l a} (k : d.kind % 4 = 2) : HzS d i f (.scan ⟨planH, 4, l, true⟩) a
  | look (k : d.kind % 4 = 3) : HzS d i f (.put ⟨opP d, true, false, false, 0, 0⟩) ⟨5, celP d, zWord, zWord⟩
  | swap (k : d.kind % 4 = 3) (g : WordV) (t : Int) (hne : d.n ≠ g.val) : HzS d i f (.put ⟨opP d, true, true, false, t, 0⟩) ⟨6, celP d, g, { g with val := d.n }⟩
  | wdone {b t z a} (k : d.kind % 4 = 3) : HzS d i f (.put ⟨opP d, true, b, true, t, z⟩) a
theorem HzS.keep {d : DoH} {i : Nat} {f g : Int → WordV} {s : HzV} {a : ActM} (h : HzS d i f s a) (h1 : g (hazP i) = f (hazP i)) : HzS d i g s a := by
  cases h with
  | found k => exact .found k
  | held k => exact .held k
  | again k h => exact .again k (by rw [h1, h])
  | pdone k h => exact .pdone k (by rw [h1, h])
  | clr k => exact .clr k
  | cdone k h => exact .cdone k (by rw [h1, h])
  | scan k m hm => exact .scan k m hm
  | sdone k => exact .sdone k
  | look k => exact .look k
  | swap k g t hne => exact .swap k g t hne
  | wdone k => exact .wdone k
structure HzT (d : DoH) (i : Nat) (f : Int → WordV) (s : HzV) (y : TaskM hz) : Prop where
  code : y.code = some s
  live : y.live = !finH s
  st : HzS d i f s y.act
theorem HzS.act {d : DoH} {i : Nat} {f : Int → WordV} {s : HzV} {a : ActM} (h : HzS d i f s a) (hl : finH s = false) : (a.op = 4 ∧ a.place = hazP i) ∨ (a.op = 5 ∧ (a.place = celP d ∨ ∃ m, m < 3 ∧ a.place = hazP m)) ∨ (a.op = 6 ∧ a.place = celP d) := by
  cases h with
  | found k => exact .inr (.inl ⟨rfl, .inl rfl⟩)
  | held k => exact .inl ⟨rfl, rfl⟩
  | again k h => exact .inr (.inl ⟨rfl, .inl rfl⟩)
  | pdone k h => cases hl
  | clr k => exact .inl ⟨rfl, rfl⟩
  | cdone k h => cases hl
  | scan k m hm => exact .inr (.inl ⟨rfl, .inr ⟨m, hm, rfl⟩⟩)
  | sdone k => cases hl
  | look k => exact .inr (.inl ⟨rfl, .inl rfl⟩)
  | swap k g t hne => exact .inr (.inr ⟨rfl, rfl⟩)
  | wdone k => cases hl
theorem give_liveH {C : Coder} {y : TaskM C} {s : C.St} (hl : y.live = true) (hc : y.code = some s) (g : GotV) : giveM y g = saidM { y with gots := y.gots ++ [g] } (C.next s g).1 (C.next s g).2.1 (C.next s g).2.2 := by
  unfold giveM
  rw [if_pos hl, hc]
theorem saidH {C : Coder} (y : TaskM C) (s : C.St) (a : ActM) (b : Bool) : (saidM y s a b).code = some s ∧ (saidM y s a b).live = !b ∧ (b = false → (saidM y s a b).act = a) := by
  unfold saidM
  cases b
  · exact ⟨rfl, rfl, fun _ => rfl⟩
  · exact ⟨rfl, rfl, fun h => nomatch h⟩
theorem setH_place {f : Int → WordV} {a : ActM} {p : Int} (h : p ≠ a.place) : scSet f a p = f p := by
  unfold scSet
  rw [if_neg (fun h' => h h'.1)]
theorem setH_look {f : Int → WordV} {p o n} (q : Int) : scSet f ⟨5, p, o, n⟩ q = f q := by
  unfold scSet scHits
  rw [if_neg]
  rintro ⟨_, h2⟩
  simp at h2
theorem setH_rel {f : Int → WordV} {p o n} : scSet f ⟨4, p, o, n⟩ p = n := by
  unfold scSet scHits
  rw [if_pos ⟨rfl, rfl⟩]
theorem setH_swap {f : Int → WordV} {p o n} (q : Int) : scSet f ⟨6, p, o, n⟩ q = if q = p ∧ weq (f p) o = true then n else f q := by
  unfold scSet scHits
  by_cases h : q = p ∧ weq (f p) o = true
  · rw [if_pos h, if_pos ⟨h.1, by simp only [beq_self_eq_true, Bool.true_and]; rw [h.2]; rfl⟩]
  · rw [if_neg h, if_neg]
    rintro ⟨h1, h2⟩
    simp only [beq_self_eq_true, Bool.true_and] at h2
    have h2 : weq (f p) o = true := by simpa using h2
    exact h ⟨h1, h2⟩
theorem hz_next {d : DoH} {i : Nat} (hi : i < 3) {f : Int → WordV} {s : HzV} {a : ActM} (h : HzS d i f s a) (hl : finH s = false) :
    ∃ a' b, hzNext s (scGot f a) = ((hzNext s (scGot f a)).1, a', b) ∧ b = finH (hzNext s (scGot f a)).1 ∧ ∀ a'', (b = false → a'' = a') → HzS d i (scSet f a) (hzNext s (scGot f a)).1 a'' := by
  have hcel := fun t (ht : t < 3) => hazP_cel ht d
  cases h with
  | found k =>
    refine ⟨_, _, rfl, rfl, fun a'' ha => ?_⟩
    rw [ha rfl]
    exact .held k
  | @held w k =>
    refine ⟨_, _, rfl, rfl, fun a'' ha => ?_⟩
    rw [ha rfl]
    exact .again k (by rw [setH_rel])
  | @again w k h =>
    have hg : scGot f ⟨5, celP d, zWord, zWord⟩ = ⟨f (celP d), true⟩ := rfl
    by_cases hc : weq (f (celP d)) w = true
    · have e : hzNext (.prot ⟨celP d, hazP i, w, false, .again⟩) ⟨f (celP d), true⟩ = (.prot ⟨celP d, hazP i, w, true, .again⟩, zAct, true) := by
        simp only [hzNext, protNext, protDo, againP]
        rw [if_neg (by decide), if_pos hc]
      rw [hg, e]
      exact ⟨_, _, rfl, rfl, fun a'' ha => .pdone k (by rw [setH_look]; exact h)⟩
    · have e : hzNext (.prot ⟨celP d, hazP i, w, false, .again⟩) ⟨f (celP d), true⟩ = (.prot ⟨celP d, hazP i, f (celP d), false, .held⟩, ⟨4, hazP i, zWord, ⟨(f (celP d)).val, 0, 0⟩⟩, false) := by
        simp only [hzNext, protNext, protDo, againP]
        rw [if_neg (by decide), if_neg hc]
        rfl
      rw [hg, e]
      refine ⟨_, _, rfl, rfl, fun a'' ha => ?_⟩
      rw [ha rfl]
      exact .held k
  | pdone k h => cases hl
  | clr k =>
    refine ⟨_, _, rfl, rfl, fun a'' ha => .cdone k (by rw [setH_rel]; rfl)⟩
  | cdone k h => cases hl
  | @scan l k m hm =>
    have hg : scGot f ⟨5, hazP m, zWord, zWord⟩ = ⟨f (hazP m), true⟩ := rfl
    generalize hq : metS ⟨planH, (m : Int) + 1, l, false⟩ ⟨f (hazP m), true⟩ = l'
    by_cases hc : m = 2
    · subst hc
      have e : hzNext (.scan ⟨planH, ((2 : Nat) : Int) + 1, l, false⟩) ⟨f (hazP 2), true⟩ = (.scan ⟨planH, 4, l', true⟩, zAct, true) := by
        simp only [hzNext, scanNext]
        rw [if_neg (by decide), if_pos (by decide), hq]
        rfl
      rw [hg, e]
      exact ⟨_, _, rfl, rfl, fun a'' ha => .sdone k⟩
    · have e : hzNext (.scan ⟨planH, (m : Int) + 1, l, false⟩) ⟨f (hazP m), true⟩ = (.scan ⟨planH, ((m + 1 : Nat) : Int) + 1, l', false⟩, ⟨5, hazP (m + 1), zWord, zWord⟩, false) := by
        simp only [hzNext, scanNext]
        rw [if_neg (by decide), if_neg (by omega), hq]
        rfl
      rw [hg, e]
      refine ⟨_, _, rfl, rfl, fun a'' ha => ?_⟩
      rw [ha rfl]
      exact .scan k (m + 1) (by omega)
  | sdone k => cases hl
  | look k =>
    have hg : scGot f ⟨5, celP d, zWord, zWord⟩ = ⟨f (celP d), true⟩ := rfl
    rw [hg]
    by_cases hc : d.n = (f (celP d)).val
    · have e : hzNext (.put ⟨opP d, true, false, false, 0, 0⟩) ⟨f (celP d), true⟩ = (.put ⟨opP d, true, false, true, 0, (f (celP d)).val⟩, zAct, true) := by
        simp only [hzNext, atmNext]
        rw [if_neg (by decide), if_neg (by decide), if_neg (by decide), doA_put, if_pos hc]
        rfl
      rw [e]
      exact ⟨_, _, rfl, rfl, fun a'' ha => .wdone k⟩
    · have e : hzNext (.put ⟨opP d, true, false, false, 0, 0⟩) ⟨f (celP d), true⟩ = (.put ⟨opP d, true, true, false, 0, 0⟩, ⟨6, celP d, f (celP d), { f (celP d) with val := d.n }⟩, false) := by
        simp only [hzNext, atmNext]
        rw [if_neg (by decide), if_neg (by decide), if_neg (by decide), doA_put, if_neg hc]
        rfl
      rw [e]
      refine ⟨_, _, rfl, rfl, fun a'' ha => ?_⟩
      rw [ha rfl]
      exact .swap k _ _ hc
  | swap k g t hne =>
    have hg : scGot f ⟨6, celP d, g, { g with val := d.n }⟩ = ⟨f (celP d), weq (f (celP d)) g⟩ := rfl
    rw [hg]
    by_cases hw : weq (f (celP d)) g = true
    · have e : hzNext (.put ⟨opP d, true, true, false, t, 0⟩) ⟨f (celP d), weq (f (celP d)) g⟩ = (.put ⟨opP d, true, true, true, t + 1, (f (celP d)).val⟩, zAct, true) := by
        simp only [hzNext, atmNext]
        rw [if_neg (by decide), if_neg (by decide), if_pos ⟨trivial, hw⟩]
      rw [e]
      exact ⟨_, _, rfl, rfl, fun a'' ha => .wdone k⟩
    · by_cases hc : d.n = (f (celP d)).val
      · have e : hzNext (.put ⟨opP d, true, true, false, t, 0⟩) ⟨f (celP d), weq (f (celP d)) g⟩ = (.put ⟨opP d, true, true, true, t + 1, (f (celP d)).val⟩, zAct, true) := by
          simp only [hzNext, atmNext]
          rw [if_neg (by decide), if_neg (by decide), if_neg (fun h => hw h.2), doA_put, if_pos hc]
          rfl
        rw [e]
        exact ⟨_, _, rfl, rfl, fun a'' ha => .wdone k⟩
      · have e : hzNext (.put ⟨opP d, true, true, false, t, 0⟩) ⟨f (celP d), weq (f (celP d)) g⟩ = (.put ⟨opP d, true, true, false, t + 1, 0⟩, ⟨6, celP d, f (celP d), { f (celP d) with val := d.n }⟩, false) := by
          simp only [hzNext, atmNext]
          rw [if_neg (by decide), if_neg (by decide), if_neg (fun h => hw h.2), doA_put, if_neg hc]
          rfl
        rw [e]
        refine ⟨_, _, rfl, rfl, fun a'' ha => ?_⟩
        rw [ha rfl]
        exact .swap k _ _ hc
  | wdone k => cases hl
theorem hz_give {d : DoH} {i : Nat} (hi : i < 3) {f : Int → WordV} {s : HzV} {y : TaskM hz} (h : HzT d i f s y) (hl : y.live = true) :
    HzT d i (scSet f y.act) (hzNext s (scGot f y.act)).1 (giveM y (scGot f y.act)) ∧ ∀ u, u < 3 → u ≠ i → scSet f y.act (hazP u) = f (hazP u) := by
  have hf : finH s = false := by have := h.live; rw [hl] at this; simpa using this.symm
  have hst := h.st
  obtain ⟨a', b, e, e2, e3⟩ := hz_next hi hst hf
  refine ⟨?_, fun u hu hne => ?_⟩
  · rw [give_liveH hl h.code]
    change HzT d i _ _ (saidM (C := hz) _ (hzNext s (scGot f y.act)).1 (hzNext s (scGot f y.act)).2.1 (hzNext s (scGot f y.act)).2.2)
    have e4 : (hzNext s (scGot f y.act)).2 = (a', b) := by rw [e]
    rw [e4]
    obtain ⟨c1, c2, c3⟩ := saidH (C := hz) { y with gots := y.gots ++ [scGot f y.act] } (hzNext s (scGot f y.act)).1 a' b
    exact ⟨c1, by rw [c2, e2], e3 _ c3⟩
  · rcases hst.act hf with ⟨_, e⟩ | ⟨e, _⟩ | ⟨_, e⟩
    · exact setH_place (by rw [e]; exact fun e' => hne (hazP_inj hu hi e'))
    · generalize y.act = a at e
      obtain ⟨op, p, o, n⟩ := a
      simp only at e
      subst e
      exact setH_look _
    · exact setH_place (by rw [e]; exact hazP_cel hu d)
structure HzW (d : Nat → DoH) (w : WorldM hz) (s : Nat → HzV) : Prop where
  ok : ∃ n, WorldOk w n
  awake : 0 < w.m.mem.views.length
  places : w.m.mem.places.length = 376
  len : w.tasks.length = 3
  task : ∀ (i : Nat) (y : TaskM hz), w.tasks[i]? = some y → HzT (d i) i (Wd w.m) (s i) y
theorem HzW.get {d : Nat → DoH} {w : WorldM hz} {s : Nat → HzV} (h : HzW d w s) {i : Nat} (hi : i < 3) : ∃ y, w.tasks[i]? = some y ∧ HzT (d i) i (Wd w.m) (s i) y := by
  have hi' : i < w.tasks.length := by rw [h.len]; exact hi
  exact ⟨_, List.getElem?_eq_getElem hi', h.task i _ (List.getElem?_eq_getElem hi')⟩
theorem HzW.sc {d : Nat → DoH} {w : WorldM hz} {s : Nat → HzV} (h : HzW d w s) {n : Nat} (hn : WorldOk w n) : ScW w n := by
  refine ⟨hn, h.awake, fun y hy hl => ?_⟩
  obtain ⟨i, hi⟩ := List.getElem?_of_mem hy
  have hlt := (List.getElem?_eq_some_iff.1 hi).1
  rw [h.len] at hlt
  have hT := h.task i y hi
  have hf : finH (s i) = false := by have := hT.live; rw [hl] at this; simpa using this.symm
  rcases hT.st.act hf with ⟨a1, a2⟩ | ⟨a1, a2 | ⟨m, hm, a2⟩⟩ | ⟨a1, a2⟩
  · refine ⟨.inl a1, ?_⟩
    rw [a2]; have := hazP_in hlt
    unfold PlcB; rw [h.places]; omega
  · refine ⟨.inr (.inl a1), ?_⟩
    rw [a2]; have := celP_in (d i)
    unfold PlcB; rw [h.places]; omega
  · refine ⟨.inr (.inl a1), ?_⟩
    rw [a2]; have := hazP_in hm
    unfold PlcB; rw [h.places]; omega
  · refine ⟨.inr (.inr a1), ?_⟩
    rw [a2]; have := celP_in (d i)
    unfold PlcB; rw [h.places]; omega
inductive HzStep (w : WorldM hz) (s : Nat → HzV) (p : PickV) (s' : Nat → HzV) : Prop
  | idle (e : stepM w p = (w, false)) (hs : s' = s) (ht : p.kind = 0 → takesM w p.thread = false)
  | halt (k : p.kind = 1) (hs : s' = s) (ht : (stepM w p).1.tasks = w.tasks) (hm : (stepM w p).1.m = w.m)
  | go (m : Nat) (y : TaskM hz) (hm : m < 3) (k : p.kind = 0) (ht : p.thread = (m : Int) + 1) (hy : w.tasks[m]? = some y) (hl : y.live = true) (hp : stoppedM w m = false) (did : (stepM w p).2 = true)
      (hT : (stepM w p).1.tasks = w.tasks.set m (giveM y (scGot (Wd w.m) y.act))) (hst : (stepM w p).1.stopped = w.stopped) (hW : Wd (stepM w p).1.m = scSet (Wd w.m) y.act)
      (hs : s' = fun j => if j = m then (hzNext (s m) (scGot (Wd w.m) y.act)).1 else s j)
theorem hzW_step {d : Nat → DoH} {w : WorldM hz} {s : Nat → HzV} (h : HzW d w s) (p : PickV) (hp : p.kind ≠ 2) : ∃ s', HzW d (stepM w p).1 s' ∧ HzStep w s p s' := by
  obtain ⟨n, hn⟩ := h.ok
  have hs := h.sc hn
  have hsz := sc_size hs.ok p hp
  have hok := stepOk hs.ok p
  rcases sc_step hs p hp with ⟨e, e2⟩ | ⟨m, y, h0, h1, h2, h3, h4, h5, h6, h7, h8⟩ | ⟨m, y, h0, h1, h2, h3, h4, h5⟩
  · exact ⟨s, by rw [e]; exact h, .idle e rfl e2⟩
  · have hlt := (List.getElem?_eq_some_iff.1 h2).1
    rw [h.len] at hlt
    obtain ⟨hT1, hoth⟩ := hz_give hlt (h.task m y h2) h3
    have hmem : Wd (stepM w p).1.m = scSet (Wd w.m) y.act := funext h8
    refine ⟨_, ⟨⟨_, hok⟩, by rw [hsz.1]; exact h.awake, by rw [hsz.2.1]; exact h.places, by rw [hsz.2.2]; exact h.len, ?_⟩, .go m y hlt h0 h1 h2 h3 h4 h5 h6 h7 hmem rfl⟩
    intro i y' hi
    rw [h6, List.getElem?_set] at hi
    rw [hmem]
    split at hi
    · rename_i e
      subst e
      rw [if_pos (by rw [h.len]; exact hlt)] at hi
      cases hi
      show HzT (d m) m _ (if m = m then _ else _) _
      rw [if_pos rfl]
      exact hT1
    · rename_i hne
      have hil := (List.getElem?_eq_some_iff.1 hi).1
      rw [h.len] at hil
      show HzT (d i) i _ (if i = m then _ else _) _
      rw [if_neg (fun e => hne e.symm)]
      obtain ⟨c1, c2, c3⟩ := h.task i y' hi
      exact ⟨c1, c2, c3.keep (hoth i hil (fun e => hne e.symm))⟩
  · have e : (stepM w p).1 = haltM w p.thread := by rw [h5]
    exact ⟨s, ⟨⟨_, hok⟩, by rw [hsz.1]; exact h.awake, by rw [hsz.2.1]; exact h.places, by rw [hsz.2.2]; exact h.len, by rw [e]; exact h.task⟩, .halt h0 rfl (by rw [e]; rfl) (by rw [e]; rfl)⟩
theorem hz_start (d : DoH) {i : Nat} (hi : i < 3) (f : Int → WordV) : HzT d i f (hzNext (codeH i d) zGot).1 (startM (C := hz) (codeH i d)) := by
  obtain ⟨c1, c2, c3⟩ := saidH (C := hz) (zTask hz) (hzNext (codeH i d) zGot).1 (hzNext (codeH i d) zGot).2.1 (hzNext (codeH i d) zGot).2.2
  change HzT d i f _ (saidM (C := hz) (zTask hz) (hzNext (codeH i d) zGot).1 (hzNext (codeH i d) zGot).2.1 (hzNext (codeH i d) zGot).2.2)
  have hc : d.kind % 4 = 0 ∨ d.kind % 4 = 1 ∨ d.kind % 4 = 2 ∨ d.kind % 4 = 3 := by omega
  rcases hc with h | h | h | h
  · have hcode : codeH i d = .prot ⟨celP d, hazP i, zWord, false, .begin⟩ := if_pos h
    rw [hcode] at c1 c2 c3 ⊢
    exact ⟨c1, c2, by rw [c3 rfl]; exact .found h⟩
  · have hcode : codeH i d = .clr ⟨hazP i, 0⟩ := by unfold codeH; rw [if_neg (by omega), if_pos h]
    rw [hcode] at c1 c2 c3 ⊢
    exact ⟨c1, c2, by rw [c3 rfl]; exact .clr h⟩
  · have hcode : codeH i d = .scan ⟨planH, 0, [], false⟩ := by unfold codeH; rw [if_neg (by omega), if_neg (by omega), if_pos h]
    rw [hcode] at c1 c2 c3 ⊢
    exact ⟨c1, c2, by rw [c3 rfl]; exact .scan h 0 (by decide)⟩
  · have hcode : codeH i d = .put (newA (opP d)) := by unfold codeH; rw [if_neg (by omega), if_neg (by omega), if_neg (by omega)]
    rw [hcode] at c1 c2 c3 ⊢
    exact ⟨c1, c2, by rw [c3 rfl]; exact .look h⟩
end Go.Proofs.YtkoibcblmgmdmaaGreatDoor
