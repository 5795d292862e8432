/-
  Layer 13, plain law: worlds of era codes.
-/
import Derived.Test.YtkbgdhomdbolnaaGreatDoorK13d
import Derived.Test.YtkbgdhomdbolnaaGreatDoorK13e
namespace Go.Proofs.YtkbgdhomdbolnaaGreatDoor
set_option linter.unusedSimpArgs false
set_option linter.unusedVariables false
open Go.RowKit Go.Maps

def eraP : Int := atL planL 0 0 1
def annP (t : Nat) : Int := atL planL 1 t 0
theorem annP_era {t : Nat} (h : t < 3) : annP t ≠ eraP := by
  match t, h with
  | 0, _ => decide
  | 1, _ => decide
  | 2, _ => decide
theorem annP_inj {t u : Nat} (h : t < 3) (h' : u < 3) (e : annP t = annP u) : t = u := by
  match t, h, u, h' with
  | 0, _, 0, _ => rfl
  | 0, _, 1, _ => revert e; decide
  | 0, _, 2, _ => revert e; decide
  | 1, _, 0, _ => revert e; decide
  | 1, _, 1, _ => rfl
  | 1, _, 2, _ => revert e; decide
  | 2, _, 0, _ => revert e; decide
  | 2, _, 1, _ => revert e; decide
  | 2, _, 2, _ => rfl
theorem annP_in {t : Nat} (h : t < 3) : 0 ≤ annP t ∧ annP t < 376 := by
  match t, h with
  | 0, _ => decide
  | 1, _ => decide
  | 2, _ => decide
theorem eraP_in : 0 ≤ eraP ∧ eraP < 376 := by decide
/-- What a code of kind k of thread t + 1 is at, with the newest words f; the act that it asks for. -/
inductive EraS (k : Int) (t : Nat) (f : Int → WordV) (s : EraV) : ActM → Prop
  | ann (w : k % 3 = 0) (o : s.over = false) (p : s.pos = .ann) : EraS k t f s ⟨5, eraP, zWord, zWord⟩
  | ann1 (w : k % 3 = 0) (o : s.over = false) (p : s.pos = .ann1) : EraS k t f s ⟨4, annP t, zWord, ⟨s.found, 0, 0⟩⟩
  | cmp (w : k % 3 = 0) (o : s.over = false) (p : s.pos = .cmp) (v : (f (annP t)).val = s.found) : EraS k t f s ⟨5, eraP, zWord, zWord⟩
  | enter {a} (w : k % 3 = 0) (o : s.over = true) (v : (f (annP t)).val = s.time) (u : s.time ≤ (f eraP).val) : EraS k t f s a
  | leave (w : k % 3 = 1) (o : s.over = false) (p : s.pos = .leave2) : EraS k t f s ⟨4, annP t, zWord, zWord⟩
  | left {a} (w : k % 3 = 1) (o : s.over = true) : EraS k t f s a
  | adv (w : k % 3 = 2) (o : s.over = false) (p : s.pos = .raise) (r : s.tried = false) : EraS k t f s ⟨5, eraP, zWord, zWord⟩
  | adv2 (g : WordV) (w : k % 3 = 2) (o : s.over = false) (p : s.pos = .raise) (r : s.tried = true) (v : s.found = IntKind.i64.wrap (g.val + 1)) : EraS k t f s ⟨6, eraP, g, ⟨IntKind.i64.wrap (g.val + 1), 0, 0⟩⟩
  | advd {a} (w : k % 3 = 2) (o : s.over = true) (u : 2 ≤ s.time ∧ s.time ≤ (f eraP).val) : EraS k t f s a
theorem EraS.keep {k : Int} {t : Nat} {f g : Int → WordV} {s : EraV} {a : ActM} (h : EraS k t f s a) (h1 : (g (annP t)).val = (f (annP t)).val) (h2 : (f eraP).val ≤ (g eraP).val) : EraS k t g s a := by
  cases h with
  | ann w o p => exact .ann w o p
  | ann1 w o p => exact .ann1 w o p
  | cmp w o p v => exact .cmp w o p (by rw [h1, v])
  | enter w o v u => exact .enter w o (by rw [h1, v]) (by omega)
  | leave w o p => exact .leave w o p
  | left w o => exact .left w o
  | adv w o p r => exact .adv w o p r
  | adv2 g w o p r v => exact .adv2 g w o p r v
  | advd w o u => exact .advd w o (by omega)
structure EraT (k : Int) (t : Nat) (f : Int → WordV) (s : EraV) (y : TaskM era) : Prop where
  code : y.code = some s
  live : y.live = !s.over
  era : s.era = eraP
  mine : k % 3 = 2 ∨ s.mine = annP t
  at' : EraS k t f s y.act
theorem EraT.act {k : Int} {t : Nat} {f : Int → WordV} {s : EraV} {y : TaskM Go.Proofs.YtkbgdhomdbolnaaGreatDoor.era} (h : EraT k t f s y) (hl : y.live = true) : (y.act.op = 4 ∧ y.act.place = annP t) ∨ ((y.act.op = 5 ∨ y.act.op = 6) ∧ y.act.place = eraP) := by
  have ho : s.over = false := by have := h.live; rw [hl] at this; simpa using this.symm
  have h2 := h.at'
  generalize y.act = a at h2
  cases h2 with
  | ann => exact .inr ⟨.inl rfl, rfl⟩
  | ann1 => exact .inl ⟨rfl, rfl⟩
  | cmp => exact .inr ⟨.inl rfl, rfl⟩
  | enter w o v u => rw [ho] at o; cases o
  | leave => exact .inl ⟨rfl, rfl⟩
  | left w o => rw [ho] at o; cases o
  | adv => exact .inr ⟨.inl rfl, rfl⟩
  | adv2 => exact .inr ⟨.inr rfl, rfl⟩
  | advd w o u => rw [ho] at o; cases o
theorem give_liveE {C : Coder} {y : TaskM C} {s : C.St} (hl : y.live = true) (hc : y.code = some s) (g : GotV) : giveM y g = saidM { y with gots := y.gots ++ [g] } (C.next s g).1 (C.next s g).2.1 (C.next s g).2.2 := by
  unfold giveM
  rw [if_pos hl, hc]
theorem said_code {C : Coder} (y : TaskM C) (s : C.St) (a : ActM) (b : Bool) : (saidM y s a b).code = some s ∧ (saidM y s a b).live = !b ∧ (b = false → (saidM y s a b).act = a) := by
  unfold saidM
  cases b
  · exact ⟨rfl, rfl, fun _ => rfl⟩
  · exact ⟨rfl, rfl, fun h => nomatch h⟩
theorem set_place {f : Int → WordV} {a : ActM} {p : Int} (h : p ≠ a.place) : scSet f a p = f p := by
  unfold scSet
  rw [if_neg (fun h' => h h'.1)]
theorem set_look {f : Int → WordV} {a : ActM} (h : a.op = 5) (p : Int) : scSet f a p = f p := by
  unfold scSet scHits
  rw [h, if_neg]
  rintro ⟨_, h2⟩
  simp at h2
/-- What one result does to a task. -/
structure EraGo (k : Int) (t : Nat) (f g : Int → WordV) (s : EraV) : Prop where
  era : ((¬ (k % 3 = 2 ∧ s.over = true)) ∧ (g eraP).val = (f eraP).val) ∨ (k % 3 = 2 ∧ s.over = true ∧ (g eraP).val = (f eraP).val + 1 ∧ s.time = (g eraP).val)
  enter : k % 3 = 0 → s.over = true → (g eraP).val = s.time
  other : ∀ u, u < 3 → u ≠ t → g (annP u) = f (annP u)
theorem era_give {k : Int} {t : Nat} (ht : t < 3) {f : Int → WordV} {s : EraV} {y : TaskM Go.Proofs.YtkbgdhomdbolnaaGreatDoor.era} (h : EraT k t f s y) (hl : y.live = true) (hf : 1 ≤ (f eraP).val ∧ (f eraP).val ≤ 10) :
    ∃ s', EraT k t (scSet f y.act) s' (giveM y (scGot f y.act)) ∧ EraGo k t f (scSet f y.act) s' := by
  have ho : s.over = false := by have := h.live; rw [hl] at this; simpa using this.symm
  have hnx : ∀ g, Go.Proofs.YtkbgdhomdbolnaaGreatDoor.era.next s g = ((eraDo s g).1, (eraDo s g).2, (eraDo s g).1.over) := fun g => by
    show eraNext s g = _
    unfold eraNext; rw [if_neg (by rw [ho]; decide)]
  have hsaid : ∀ g, giveM y g = saidM { y with gots := y.gots ++ [g] } (eraDo s g).1 (eraDo s g).2 (eraDo s g).1.over := fun g => by
    rw [give_liveE hl h.code, hnx]
  have hoth : ∀ u, u < 3 → u ≠ t → scSet f y.act (annP u) = f (annP u) := fun u hu hne => set_place (by
    rcases h.act hl with ⟨_, e⟩ | ⟨_, e⟩
    · rw [e]; exact fun e => hne (annP_inj hu ht e)
    · rw [e]; exact annP_era hu)
  have hbuild : ∀ (s' : EraV) (a : ActM) (b : Bool), eraDo s (scGot f y.act) = (s', a) → s'.over = b → s'.era = eraP → (k % 3 = 2 ∨ s'.mine = annP t) → (∀ a', (b = false → a' = a) → EraS k t (scSet f y.act) s' a') → EraT k t (scSet f y.act) s' (giveM y (scGot f y.act)) := fun s' a b e eb e1 e2 e3 => by
    obtain ⟨c1, c2, c3⟩ := said_code (C := Go.Proofs.YtkbgdhomdbolnaaGreatDoor.era) { y with gots := y.gots ++ [scGot f y.act] } s' a s'.over
    rw [hsaid, e]
    refine ⟨c1, c2, e1, e2, e3 _ fun hb => c3 (by rw [eb]; exact hb)⟩
  have hm := h.mine
  have he := h.era
  have h2 := h.at'
  generalize y.act = A at h2 hoth hbuild ⊢
  cases h2 with
  | ann w o p =>
    have hs : ∀ q, scSet f ⟨5, eraP, zWord, zWord⟩ q = f q := fun q => set_look rfl q
    have hd : eraDo s (scGot f ⟨5, eraP, zWord, zWord⟩) = annE s ⟨f eraP, true⟩ := by unfold eraDo; rw [p]; rfl
    refine ⟨(annE s ⟨f eraP, true⟩).1, hbuild _ _ false (by rw [hd]) o he hm (fun a' ha => ?_), ⟨.inl ⟨fun h => ?_, by rw [hs]⟩, fun _ h => ?_, hoth⟩⟩
    · rw [ha rfl]
      unfold annE
      rw [show s.mine = annP t by omega]
      exact .ann1 w o rfl
    · omega
    · exact absurd (show s.over = true from h) (by rw [ho]; decide)
  | ann1 w o p =>
    have hs : scSet f ⟨4, annP t, zWord, ⟨s.found, 0, 0⟩⟩ eraP = f eraP := set_place (fun e => annP_era ht e.symm)
    have hd : eraDo s (scGot f ⟨4, annP t, zWord, ⟨s.found, 0, 0⟩⟩) = lookE s .cmp := by unfold eraDo; rw [p]
    refine ⟨(lookE s .cmp).1, hbuild _ _ false (by rw [hd]) o he hm (fun a' ha => ?_), ⟨.inl ⟨fun h => ?_, by rw [hs]⟩, fun _ h => ?_, hoth⟩⟩
    · rw [ha rfl]
      unfold lookE
      rw [he]
      refine .cmp w o rfl ?_
      unfold scSet scHits
      rw [if_pos ⟨rfl, rfl⟩]
    · omega
    · exact absurd (show s.over = true from h) (by rw [ho]; decide)
  | cmp w o p v =>
    have hs : ∀ q, scSet f ⟨5, eraP, zWord, zWord⟩ q = f q := fun q => set_look rfl q
    have hd : eraDo s (scGot f ⟨5, eraP, zWord, zWord⟩) = cmpE s ⟨f eraP, true⟩ := by unfold eraDo; rw [p]; rfl
    unfold cmpE at hd
    by_cases hc : (f eraP).val = s.found
    · rw [if_pos hc] at hd
      refine ⟨(endE s s.found).1, hbuild _ _ true (by rw [hd]) rfl he hm (fun a' ha => ?_), ⟨.inl ⟨fun h => ?_, by rw [hs]⟩, fun _ h => ?_, hoth⟩⟩
      · exact .enter w rfl (by rw [hs]; exact v) (by rw [hs]; show s.found ≤ _; omega)
      · omega
      · rw [hs]; exact hc
    · rw [if_neg hc] at hd
      refine ⟨(annE s ⟨f eraP, true⟩).1, hbuild _ _ false (by rw [hd]) o he hm (fun a' ha => ?_), ⟨.inl ⟨fun h => ?_, by rw [hs]⟩, fun _ h => ?_, hoth⟩⟩
      · rw [ha rfl]
        unfold annE
        rw [show s.mine = annP t by omega]
        exact .ann1 w o rfl
      · omega
      · exact absurd (show s.over = true from h) (by rw [ho]; decide)
  | enter w o v u => rw [ho] at o; cases o
  | leave w o p =>
    have hs : scSet f ⟨4, annP t, zWord, zWord⟩ eraP = f eraP := set_place (fun e => annP_era ht e.symm)
    have hd : eraDo s (scGot f ⟨4, annP t, zWord, zWord⟩) = endE s 0 := by unfold eraDo; rw [p]
    refine ⟨(endE s 0).1, hbuild _ _ true (by rw [hd]) rfl he hm (fun a' ha => ?_), ⟨.inl ⟨fun h => ?_, by rw [hs]⟩, fun h0 h => ?_, hoth⟩⟩
    · exact .left w rfl
    · omega
    · omega
  | left w o => rw [ho] at o; cases o
  | adv w o p r =>
    have hs : ∀ q, scSet f ⟨5, eraP, zWord, zWord⟩ q = f q := fun q => set_look rfl q
    have hd : eraDo s (scGot f ⟨5, eraP, zWord, zWord⟩) = raiseE s ⟨f eraP, true⟩ := by unfold eraDo; rw [p]; rfl
    unfold raiseE at hd
    rw [if_neg (by rw [r]; simp)] at hd
    refine ⟨({ s with found := IntKind.i64.wrap ((f eraP).val + 1), tried := true, pos := .raise } : EraV), hbuild _ _ false (by rw [hd]) o he hm (fun a' ha => ?_), ⟨.inl ⟨fun h => ?_, by rw [hs]⟩, fun _ h => ?_, hoth⟩⟩
    · rw [ha rfl, he]
      exact .adv2 (f eraP) w o rfl rfl rfl
    · exact absurd (show s.over = true from h.2) (by rw [ho]; decide)
    · exact absurd (show s.over = true from h) (by rw [ho]; decide)
  | adv2 g w o p r v =>
    have hd : eraDo s (scGot f ⟨6, eraP, g, ⟨IntKind.i64.wrap (g.val + 1), 0, 0⟩⟩) = raiseE s ⟨f eraP, weq (f eraP) g⟩ := by unfold eraDo; rw [p]; rfl
    unfold raiseE at hd
    by_cases hc : weq (f eraP) g = true
    · have hg : f eraP = g := weq_iff.1 hc
      subst hg
      have hw : IntKind.i64.wrap ((f eraP).val + 1) = (f eraP).val + 1 := by rw [IntKind.wrap_i64]; omega
      rw [hw] at v hd hoth hbuild ⊢
      rw [if_pos ⟨r, hc⟩] at hd
      have hs : scSet f ⟨6, eraP, f eraP, ⟨(f eraP).val + 1, 0, 0⟩⟩ eraP = ⟨(f eraP).val + 1, 0, 0⟩ := by
        unfold scSet scHits
        rw [if_pos ⟨rfl, by simp only [beq_self_eq_true, Bool.true_and]; rw [hc]; rfl⟩]
      refine ⟨(endE s s.found).1, hbuild _ _ true (by rw [hd]) rfl he hm (fun a' ha => ?_), ⟨.inr ⟨w, rfl, by rw [hs], by rw [hs]; exact v⟩, fun h0 h => ?_, hoth⟩⟩
      · exact .advd w rfl (by rw [hs]; show 2 ≤ s.found ∧ s.found ≤ _; simp only; omega)
      · omega
    · have hc' : weq (f eraP) g = false := by simpa using hc
      rw [if_neg (fun h => hc h.2)] at hd
      have hs : ∀ q, scSet f ⟨6, eraP, g, ⟨IntKind.i64.wrap (g.val + 1), 0, 0⟩⟩ q = f q := fun q => by
        unfold scSet scHits
        rw [if_neg]
        rintro ⟨_, h2⟩
        simp only [beq_self_eq_true, Bool.true_and] at h2
        rw [hc'] at h2
        exact absurd h2 (by decide)
      refine ⟨({ s with found := IntKind.i64.wrap ((f eraP).val + 1), tried := true, pos := .raise } : EraV), hbuild _ _ false (by rw [hd]) o he hm (fun a' ha => ?_), ⟨.inl ⟨fun h => ?_, by rw [hs]⟩, fun _ h => ?_, hoth⟩⟩
      · rw [ha rfl, he]
        exact .adv2 (f eraP) w o rfl rfl rfl
      · exact absurd (show s.over = true from h.2) (by rw [ho]; decide)
      · exact absurd (show s.over = true from h) (by rw [ho]; decide)
  | advd w o u => rw [ho] at o; cases o
/-! ### Worlds -/
def dnE (k : Nat → Int) (s : Nat → EraV) (i : Nat) : Int := if k i % 3 = 2 ∧ (s i).over = true then 1 else 0
structure EraW (k : Nat → Int) (w : WorldM Go.Proofs.YtkbgdhomdbolnaaGreatDoor.era) (s : Nat → EraV) : Prop where
  ok : ∃ n, WorldOk w n
  awake : 0 < w.m.mem.views.length
  places : w.m.mem.places.length = 376
  len : w.tasks.length = 3
  task : ∀ (i : Nat) (y : TaskM Go.Proofs.YtkbgdhomdbolnaaGreatDoor.era), w.tasks[i]? = some y → EraT (k i) i (Wd w.m) (s i) y
  era : (Wd w.m eraP).val = 1 + (dnE k s 0 + dnE k s 1 + dnE k s 2)
  apart : ∀ i j, i < 3 → j < 3 → i ≠ j → k i % 3 = 2 → k j % 3 = 2 → (s i).over = true → (s j).over = true → (s i).time ≠ (s j).time
theorem dnE_range (k : Nat → Int) (s : Nat → EraV) (i : Nat) : 0 ≤ dnE k s i ∧ dnE k s i ≤ 1 := by unfold dnE; split <;> omega
theorem EraW.low {k : Nat → Int} {w : WorldM Go.Proofs.YtkbgdhomdbolnaaGreatDoor.era} {s : Nat → EraV} (h : EraW k w s) : 1 ≤ (Wd w.m eraP).val ∧ (Wd w.m eraP).val ≤ 10 := by
  have := h.era
  have h0 := dnE_range k s 0
  have h1 := dnE_range k s 1
  have h2 := dnE_range k s 2
  omega
theorem EraW.sc {k : Nat → Int} {w : WorldM Go.Proofs.YtkbgdhomdbolnaaGreatDoor.era} {s : Nat → EraV} (h : EraW k w s) : ∃ n, ScW w n := by
  obtain ⟨n, hn⟩ := h.ok
  refine ⟨n, hn, h.awake, fun y hy hl => ?_⟩
  obtain ⟨i, hi⟩ := List.getElem?_of_mem hy
  have hlt := (List.getElem?_eq_some_iff.1 hi).1
  rw [h.len] at hlt
  rcases (h.task i y hi).act hl with ⟨a1, a2⟩ | ⟨a1, a2⟩
  · refine ⟨.inl a1, ?_⟩
    rw [a2]
    have := annP_in hlt
    unfold PlcB
    rw [h.places]; omega
  · refine ⟨.inr a1, ?_⟩
    rw [a2]
    have := eraP_in
    unfold PlcB
    rw [h.places]; omega
/-- What a pick that is no crash does to a world of era codes. -/
theorem eraW_step {k : Nat → Int} {w : WorldM Go.Proofs.YtkbgdhomdbolnaaGreatDoor.era} {s : Nat → EraV} (h : EraW k w s) (p : PickV) (hp : p.kind ≠ 2) :
    ∃ s', EraW k (stepM w p).1 s' ∧ (∀ i, i < 3 → k i % 3 = 0 → (s' i).over = true → (s i).over = true ∨ (Wd (stepM w p).1.m eraP).val = (s' i).time) ∧ (∀ i, (s i).over = true → s' i = s i) := by
  obtain ⟨n, hs⟩ := h.sc
  have hsz := sc_size hs.ok p hp
  have hok := stepOk hs.ok p
  rcases sc_step hs p hp with ⟨e, e2⟩ | ⟨m, y, h0, h1, h2, h3, h4, h5, h6, h7, h8⟩ | ⟨m, y, h0, h1, h2, h3, h4, h5⟩
  · exact ⟨s, by rw [e]; exact h, fun i _ _ ho => .inl ho, fun _ _ => rfl⟩
  · have hlt := (List.getElem?_eq_some_iff.1 h2).1
    rw [h.len] at hlt
    have hT := h.task m y h2
    have hso : (s m).over = false := by have := hT.live; rw [h3] at this; simpa using this.symm
    obtain ⟨s1, hT1, hG⟩ := era_give hlt hT h3 h.low
    have hmem : Wd (stepM w p).1.m = scSet (Wd w.m) y.act := funext h8
    have hup : (Wd w.m eraP).val ≤ (scSet (Wd w.m) y.act eraP).val := by
      rcases hG.era with ⟨_, e⟩ | ⟨_, _, e, _⟩ <;> omega
    let s' : Nat → EraV := fun j => if j = m then s1 else s j
    have hs'm : s' m = s1 := if_pos rfl
    have hs'o : ∀ j, j ≠ m → s' j = s j := fun j hj => if_neg hj
    refine ⟨s', ⟨⟨_, hok⟩, by rw [hsz.1]; exact h.awake, by rw [hsz.2.1]; exact h.places, by rw [hsz.2.2]; exact h.len, ?_, ?_, ?_⟩, ?_, ?_⟩
    · intro i y' hi
      rw [h6, List.getElem?_set] at hi
      rw [hmem]
      split at hi
      · rename_i e
        subst e
        rw [if_pos (by rw [h.len]; exact hlt)] at hi
        cases hi
        rw [hs'm]; exact hT1
      · rename_i hne
        have hil := (List.getElem?_eq_some_iff.1 hi).1
        rw [h.len] at hil
        rw [hs'o i (fun e => hne e.symm)]
        obtain ⟨c1, c2, c3, c4, c5⟩ := h.task i y' hi
        exact ⟨c1, c2, c3, c4, c5.keep (by rw [hG.other i hil (fun e => hne e.symm)]) hup⟩
    · rw [hmem]
      have hd : dnE k s m = 0 := by unfold dnE; rw [if_neg (by rw [hso]; simp)]
      have hd' : (scSet (Wd w.m) y.act eraP).val = (Wd w.m eraP).val + dnE k s' m := by
        unfold dnE
        rw [hs'm]
        rcases hG.era with ⟨a, e⟩ | ⟨a, b, e, _⟩
        · rw [if_neg a, e]; omega
        · rw [if_pos ⟨a, b⟩, e]
      have ho : ∀ j, j ≠ m → dnE k s' j = dnE k s j := fun j hj => by unfold dnE; rw [hs'o j hj]
      rw [hd', h.era]
      match m, hlt, hd, ho with
      | 0, _, hd, ho => rw [ho 1 (by decide), ho 2 (by decide), hd]; omega
      | 1, _, hd, ho => rw [ho 0 (by decide), ho 2 (by decide), hd]; omega
      | 2, _, hd, ho => rw [ho 0 (by decide), ho 1 (by decide), hd]; omega
    · intro i j hi hj hij ki kj oi oj
      have hbig : ∀ j, j < 3 → j ≠ m → k j % 3 = 2 → (s j).over = true → (s j).time ≤ (Wd w.m eraP).val := fun j hj hne kj oj => by
        obtain ⟨y', hy'⟩ : ∃ y', w.tasks[j]? = some y' := ⟨_, List.getElem?_eq_getElem (by rw [h.len]; exact hj)⟩
        have h9 := (h.task j y' hy').at'
        generalize y'.act = A9 at h9
        cases h9 with
        | advd w o u => exact u.2
        | ann w o p => omega
        | ann1 w o p => omega
        | cmp w o p v => omega
        | enter w o v u => omega
        | leave w o p => omega
        | left w o => omega
        | adv w o p r => rw [oj] at o; cases o
        | adv2 g w o p r v => rw [oj] at o; cases o
      by_cases hi' : i = m
      · subst hi'
        rw [hs'o j (fun e => hij e.symm)] at oj ⊢
        rw [hs'm] at oi ⊢
        rcases hG.era with ⟨a, _⟩ | ⟨_, _, e, e'⟩
        · exact absurd ⟨ki, oi⟩ a
        · have := hbig j hj (fun e => hij e.symm) kj oj
          omega
      · by_cases hj' : j = m
        · subst hj'
          rw [hs'o i hi'] at oi ⊢
          rw [hs'm] at oj ⊢
          rcases hG.era with ⟨a, _⟩ | ⟨_, _, e, e'⟩
          · exact absurd ⟨kj, oj⟩ a
          · have := hbig i hi hi' ki oi
            omega
        · rw [hs'o i hi'] at oi ⊢
          rw [hs'o j hj'] at oj ⊢
          exact h.apart i j hi hj hij ki kj oi oj
    · intro i hi ki oi
      by_cases hi' : i = m
      · subst hi'
        rw [hs'm] at oi ⊢
        rw [hmem]
        exact .inr (hG.enter ki oi)
      · rw [hs'o i hi'] at oi
        exact .inl oi
    · intro i oi
      exact hs'o i (fun e => by rw [e, hso] at oi; cases oi)
  · have e : (stepM w p).1 = haltM w p.thread := by rw [h5]
    refine ⟨s, ⟨⟨_, hok⟩, by rw [hsz.1]; exact h.awake, by rw [hsz.2.1]; exact h.places, by rw [hsz.2.2]; exact h.len, ?_, ?_, h.apart⟩, fun i _ _ ho => .inl ho, fun _ _ => rfl⟩
    · rw [e]; exact h.task
    · rw [e]; exact h.era
theorem newE_mine {i : Nat} (h : i < 3) (p : EPos) : (newE planL ((i : Int) + 1) p).mine = annP i := by
  match i, h with
  | 0, _ => exact of_decide_eq_true (by kernel_rfl)
  | 1, _ => exact of_decide_eq_true (by kernel_rfl)
  | 2, _ => exact of_decide_eq_true (by kernel_rfl)
def beginE (k : Int) (i : Nat) : EraV := (eraNext (codeE k ((i : Int) + 1)) zGot).1
theorem era_start (k : Int) {i : Nat} (hi : i < 3) (f : Int → WordV) : EraT k i f (beginE k i) (startM (C := Go.Proofs.YtkbgdhomdbolnaaGreatDoor.era) (codeE k ((i : Int) + 1))) ∧ (beginE k i).over = false := by
  obtain ⟨c1, c2, c3⟩ := said_code (C := Go.Proofs.YtkbgdhomdbolnaaGreatDoor.era) (zTask Go.Proofs.YtkbgdhomdbolnaaGreatDoor.era) (eraNext (codeE k ((i : Int) + 1)) zGot).1 (eraNext (codeE k ((i : Int) + 1)) zGot).2.1 (eraNext (codeE k ((i : Int) + 1)) zGot).2.2
  have hc : k % 3 = 0 ∨ k % 3 = 1 ∨ k % 3 = 2 := by omega
  unfold startM beginE
  change EraT k i f _ (saidM (zTask Go.Proofs.YtkbgdhomdbolnaaGreatDoor.era) (eraNext (codeE k ((i : Int) + 1)) zGot).1 (eraNext (codeE k ((i : Int) + 1)) zGot).2.1 (eraNext (codeE k ((i : Int) + 1)) zGot).2.2) ∧ _
  rcases hc with h | h | h
  · have hcode : codeE k ((i : Int) + 1) = newE planL ((i : Int) + 1) .enter := if_pos h
    rw [hcode] at c1 c2 c3 ⊢
    have hm := newE_mine hi .enter
    generalize hs : newE planL ((i : Int) + 1) .enter = s at *
    have ho : s.over = false := by rw [← hs]; rfl
    have he : s.era = eraP := by rw [← hs]; rfl
    have hp : s.pos = .enter := by rw [← hs]; rfl
    have e : eraNext s zGot = ({ s with pos := .ann }, ⟨5, eraP, zWord, zWord⟩, false) := by
      unfold eraNext eraDo
      rw [if_neg (by rw [ho]; decide), hp]
      unfold lookE
      rw [he, ho]
    rw [e] at c1 c2 c3 ⊢
    refine ⟨⟨c1, by rw [c2]; show _ = !s.over; rw [ho], he, .inr hm, ?_⟩, ho⟩
    rw [c3 rfl]
    exact .ann h ho rfl
  · have hcode : codeE k ((i : Int) + 1) = newE planL ((i : Int) + 1) .leave1 := by unfold codeE; rw [if_neg (by omega), if_pos h]
    rw [hcode] at c1 c2 c3 ⊢
    have hm := newE_mine hi .leave1
    generalize hs : newE planL ((i : Int) + 1) .leave1 = s at *
    have ho : s.over = false := by rw [← hs]; rfl
    have he : s.era = eraP := by rw [← hs]; rfl
    have hp : s.pos = .leave1 := by rw [← hs]; rfl
    have e : eraNext s zGot = ({ s with pos := .leave2 }, ⟨4, annP i, zWord, zWord⟩, false) := by
      unfold eraNext eraDo
      rw [if_neg (by rw [ho]; decide), hp, ← hm, ho]
    rw [e] at c1 c2 c3 ⊢
    refine ⟨⟨c1, by rw [c2]; show _ = !s.over; rw [ho], he, .inr hm, ?_⟩, ho⟩
    rw [c3 rfl]
    exact .leave h ho rfl
  · have hcode : codeE k ((i : Int) + 1) = newE planL 0 .adv1 := by unfold codeE; rw [if_neg (by omega), if_neg (by omega)]
    rw [hcode] at c1 c2 c3 ⊢
    generalize hs : newE planL 0 .adv1 = s at *
    have ho : s.over = false := by rw [← hs]; rfl
    have he : s.era = eraP := by rw [← hs]; rfl
    have hp : s.pos = .adv1 := by rw [← hs]; rfl
    have hr : s.tried = false := by rw [← hs]; rfl
    have e : eraNext s zGot = ({ s with pos := .raise }, ⟨5, eraP, zWord, zWord⟩, false) := by
      unfold eraNext eraDo
      rw [if_neg (by rw [ho]; decide), hp]
      unfold lookE
      rw [he, ho]
    rw [e] at c1 c2 c3 ⊢
    refine ⟨⟨c1, by rw [c2]; show _ = !s.over; rw [ho], he, .inl h, ?_⟩, ho⟩
    rw [c3 rfl]
    exact .adv h ho rfl hr
theorem first_era : (firstM planL)[eraP.toNat]? = some ⟨1, 0, 0⟩ := by kernel_rfl
attribute [local irreducible] firstM
theorem wd_machE : Wd machE eraP = ⟨1, 0, 0⟩ := by
  have h := wd_new mnew_plan first_era
  rw [Int.toNat_of_nonneg eraP_in.1] at h
  unfold machE
  exact h
attribute [local irreducible] machE
/-- The three kinds, by number. -/
def kOf (k0 k1 k2 : Int) (i : Nat) : Int := if i = 0 then k0 else if i = 1 then k1 else k2
theorem eraW_start (k0 k1 k2 : Int) : EraW (kOf k0 k1 k2) (worldE k0 k1 k2) (fun i => beginE (kOf k0 k1 k2 i) i) := by
  obtain ⟨h1, h2⟩ := world_ok k0 k1 k2
  have e : worldE k0 k1 k2 = ⟨machE, (codesE k0 k1 k2).map (startM (C := Go.Proofs.YtkbgdhomdbolnaaGreatDoor.era)), List.replicate 3 false⟩ := by unfold worldE; rw [h2]
  have hov : ∀ i, i < 3 → (beginE (kOf k0 k1 k2 i) i).over = false := fun i hi => (era_start _ hi (fun _ => zWord)).2
  have hdn : ∀ i, i < 3 → dnE (kOf k0 k1 k2) (fun i => beginE (kOf k0 k1 k2 i) i) i = 0 := fun i hi => by
    unfold dnE
    rw [if_neg]
    rintro ⟨_, h⟩
    have h9 : (beginE (kOf k0 k1 k2 i) i).over = true := h
    rw [hov i hi] at h9
    cases h9
  have hok : ∃ n, WorldOk (worldE k0 k1 k2) n := ⟨_, h1⟩
  refine ⟨hok, ?_, ?_, ?_, fun i y hi => ?_, ?_, fun i j hi _ _ _ _ ho _ => ?_⟩
  · rw [e]; show 0 < machE.mem.views.length; rw [machE_views]; decide
  · rw [e]; exact machE_places
  · rw [e]; simp [codesE]
  · rw [e] at hi ⊢
    match i, hi with
    | 0, hi =>
      obtain rfl : startM (C := Go.Proofs.YtkbgdhomdbolnaaGreatDoor.era) (codeE k0 1) = y := by simpa [codesE] using hi
      exact (era_start k0 (i := 0) (by decide) _).1
    | 1, hi =>
      obtain rfl : startM (C := Go.Proofs.YtkbgdhomdbolnaaGreatDoor.era) (codeE k1 2) = y := by simpa [codesE] using hi
      exact (era_start k1 (i := 1) (by decide) _).1
    | 2, hi =>
      obtain rfl : startM (C := Go.Proofs.YtkbgdhomdbolnaaGreatDoor.era) (codeE k2 3) = y := by simpa [codesE] using hi
      exact (era_start k2 (i := 2) (by decide) _).1
    | i + 3, hi =>
      have := (List.getElem?_eq_some_iff.1 hi).1
      simp [codesE] at this
      try omega
  · rw [hdn 0 (by decide), hdn 1 (by decide), hdn 2 (by decide), e]
    show (Wd machE eraP).val = _
    rw [wd_machE]; rfl
  · rw [hov i hi] at ho
    cases ho
end Go.Proofs.YtkbgdhomdbolnaaGreatDoor
