/-
  HazardProtects by shadows.
-/
import Derived.Test.YtkbgdhomdbolnaaGreatDoorK14f
import Derived.Test.YtkbgdhomdbolnaaGreatDoorK14t
import Derived.Test.YtkbgdhomdbolnaaGreatDoorScHazardProtects
import Derived.Test.YtkbgdhomdbolnaaGreatDoorMC
namespace Go.Proofs.YtkbgdhomdbolnaaGreatDoor
set_option linter.unusedSimpArgs false
set_option linter.unusedVariables false
open Go.RowKit Go.Maps

theorem prot_step {d : Nat → DoH} {w : WorldM hz} {s s' : Nat → HzV} {p : PickV} (h : HzW d w s) (h' : HzW d (stepM w p).1 s') (hs : HzStep w s p s') (k : (d 0).kind % 4 = 0) :
    ∃ y y' q, w.tasks[0]? = some y ∧ (stepM w p).1.tasks[0]? = some y' ∧ y'.code = some (.prot q) ∧ y'.live = !q.fin ∧
      ((stepM w p).2 = true → p.kind = 0 → p.thread = 1 → q.fin = true → y.act = ⟨5, celP (d 0), zWord, zWord⟩ ∧ Wd (stepM w p).1.m (celP (d 0)) = q.word ∧ (Wd (stepM w p).1.m (hazP 0)).val = q.word.val) := by
  obtain ⟨y, hy, hT⟩ := h.get (i := 0) (by decide)
  obtain ⟨y', hy', hT'⟩ := h'.get (i := 0) (by decide)
  have hq : ∃ q, s' 0 = .prot q := by
    have h9 := hT'.st
    generalize y'.act = a9 at h9
    generalize s' 0 = z at h9
    cases h9 with
    | found k => exact ⟨_, rfl⟩
    | held k => exact ⟨_, rfl⟩
    | again k h => exact ⟨_, rfl⟩
    | pdone k h => exact ⟨_, rfl⟩
    | clr k2 => omega
    | cdone k2 h => omega
    | scan k2 m hm => omega
    | sdone k2 => omega
    | look k2 => omega
    | swap k2 g t hne => omega
    | wdone k2 => omega
  obtain ⟨q, hq⟩ := hq
  have hc := hT'.code
  have hl := hT'.live
  rw [hq] at hc hl
  refine ⟨y, y', q, hy, hy', hc, hl, fun hdid hk0 ht1 hfin => ?_⟩
  cases hs with
  | idle e hs ht => rw [e] at hdid; cases hdid
  | halt k1 hs ht hm => omega
  | go m y2 hm k2 ht hy2 hl2 hp did hTs hst hW hs =>
    have hm0 : m = 0 := by omega
    subst hm0
    rw [hy] at hy2
    cases hy2
    have hs0 : s' 0 = (hzNext (s 0) (scGot (Wd w.m) y.act)).1 := by rw [hs]; rfl
    have hf0 : finH (s 0) = false := by have := hT.live; rw [hl2] at this; simpa using this.symm
    have hst' := hT'.st
    rw [hq] at hst'
    have hhz : (Wd (stepM w p).1.m (hazP 0)).val = q.word.val := by
      generalize y'.act = a9 at hst'
      cases hst' with
      | found k => cases hfin
      | held k => cases hfin
      | again k h => cases hfin
      | pdone k h => exact h
    have h9 := hT.st
    rw [hq] at hs0
    generalize y.act = a9 at h9 hs0 hW ⊢
    generalize s 0 = z at h9 hs0 hf0
    cases h9 with
    | found k => cases hs0; cases hfin
    | held k => cases hs0; cases hfin
    | @again w9 k h =>
      refine ⟨rfl, ?_, hhz⟩
      rw [hW, setH_look]
      have hg : scGot (Wd w.m) ⟨5, celP (d 0), zWord, zWord⟩ = ⟨Wd w.m (celP (d 0)), true⟩ := rfl
      rw [hg] at hs0
      simp only [hzNext, protNext, protDo, againP] at hs0
      rw [if_neg (by decide)] at hs0
      by_cases hcw : weq (Wd w.m (celP (d 0))) w9 = true
      · rw [if_pos hcw] at hs0
        cases hs0
        exact weq_iff.1 hcw
      · rw [if_neg hcw] at hs0
        cases hs0
        cases hfin
    | pdone k h => cases hf0
    | clr k2 => omega
    | cdone k2 h => omega
    | scan k2 m hm => omega
    | sdone k2 => omega
    | look k2 => omega
    | swap k2 g t hne => omega
    | wdone k2 => omega
def HpInv (d : Nat → DoH) (at' : Int) (L : LayV) (l : List PickV) (m : Nat) (S : St) : Prop :=
  ∃ (i : Nat) (w : WorldM hz) (s : Nat → HzV), i ≤ l.length ∧ HzW d w s ∧ WorldOk w (2 + i) ∧ m = l.length - i ∧
    S = ⟨[(3, .ptr 0 0 0), (5, .ptr 1 0 0), (6, sI at'), (45, .sl 3 2 (l.map ePick)), (46, sI l.length), (47, sI i)], [(0, boxW w), (1, .box 23 (eLay L))], 2⟩
set_option maxHeartbeats 16000000 in
theorem ok_HazardProtects (r : Run14) (hr : Run14In r) : Ok 4 [.agg (cRun14 r)] (sB true) := by
  refine ok_of_tr Tryz.func4 tr_HazardProtects rfl ?_
  have ka := ok_l14awake
  have k0 := ok_l14Great r
  cases hg : great14 r
  case true =>
    rw [hg] at k0
    unfold evFn sc_HazardProtects rv_HazardProtects
    refine eS fun K1 hn1 hr1 he1 => ?_;refine eO fun K2 hk2 => ?_;refine tL0 ?_;refine hk2 _ ?_;refine hn1 (some ([1], none)) _ ?_;refine eS fun K3 hn3 hr3 he3 => ?_;refine eS fun K4 hn4 hr4 he4 => ?_;refine eO fun K5 hk5 => ?_;refine tC0 1 ?_;refine tL0 ?_;refine Or.inl (Or.inl ⟨_, k0, ?_⟩);refine hk5 _ ?_;refine hn4 (some ([1, 18], none)) _ ?_;refine eCt ?_;refine eS fun K6 hn6 hr6 he6 => ?_;refine eO fun K7 hk7 => ?_;refine tS0 1 ?_;refine Or.inl (Or.inl ⟨_, ka, ?_⟩);refine tL0 ?_;refine hk7 _ ?_;refine hn6 (some ([2], none)) _ ?_;refine hr3 _ ?_
    exact sf0
  rw [hg] at k0
  have hlen : r.picks.length ≤ 120 := by have := of_decide_eq_false hg; omega
  obtain ⟨a, b, h0, h1, h2, d0, d1, d2, l⟩ := r
  obtain ⟨hd0, hd1, hd2⟩ := hr
  simp only at hlen hd0 hd1 hd2
  have hK := shK hz
  obtain ⟨dd, hdd⟩ : ∃ dd, dd = dOf ⟨0, d0.cell, d0.n⟩ d1 d2 := ⟨_, rfl⟩
  have k2 := ok_l14begun a b h0 h1 h2 ⟨0, d0.cell, d0.n⟩ d1 d2 ⟨by show (0 : Int) ≤ 0 ∧ (0 : Int) ≤ 255; decide, hd0.cell⟩ hd1 hd2
  rw [← hdd] at k2
  have hW0 := (worldH_ok a b (hsOf h0 h1 h2) dd).1
  obtain ⟨hZ0, _, _⟩ := worldH_hzW a b (hsOf h0 h1 h2) dd
  have hk0 : (dd 0).kind % 4 = 0 := by rw [hdd]; rfl
  have hcel : celP (dd 0) = atL planH 3 (d0.cell % 2) 0 := by rw [hdd]; rfl
  have kc := ok_layCell planH (d0.cell % 2)
  rw [← hcel] at kc
  have kh := ok_layHaz planH 1
  change Ok _ _ (sI (hazP 0)) at kh
  have kp := ok_l14plan
  have w2 := remH hd0.cell (m := 2) rfl
  have w3 : IntKind.i64.wrap (d0.cell % 2) = d0.cell % 2 := by rw [IntKind.wrap_i64]; omega
  have hst := fun {w : WorldM hz} {s s' : Nat → HzV} {p : PickV} (h : HzW dd w s) (h' : HzW dd (stepM w p).1 s') hs => prot_step h h' hs hk0
  generalize celP (dd 0) = at' at kc hst
  clear hcel hdd hg
  generalize (fun i => (hzNext (codeH i (dd i)) zGot).1) = s0 at hZ0
  generalize worldH a b (hsOf h0 h1 h2) dd = W0 at k2 hW0 hZ0
  generalize hazP 0 = hp at kh hst
  generalize planH = L at kp kc kh
  unfold evFn sc_HazardProtects rv_HazardProtects
  have F1 := And.intro @hK (And.intro @w2 @w3)
  refine eS fun K1 hn1 hr1 he1 => ?_;refine eO fun K2 hk2 => ?_;refine tL F1 ?_;refine hk2 _ ?_;refine hn1 (some ([1], none)) _ ?_;refine eS fun K3 hn3 hr3 he3 => ?_;refine eS fun K4 hn4 hr4 he4 => ?_;refine eO fun K5 hk5 => ?_;refine tC 1 F1 ?_;refine tL F1 ?_;refine Or.inl (Or.inl ⟨_, k0, ?_⟩);refine hk5 _ ?_;refine hn4 (some ([1, 18], none)) _ ?_;refine eCf ?_;refine hn3 (some ([1], none)) _ ?_;refine eS fun K6 hn6 hr6 he6 => ?_;refine eO fun K7 hk7 => ?_;refine tC 2 F1 ?_;refine tZ F1 ?_;refine hk7 _ ?_;refine hn6 (some ([1], none)) _ ?_;refine eS fun K8 hn8 hr8 he8 => ?_;refine eO fun K9 hk9 => ?_
  refine tC 2 F1 ?_;refine tC 2 F1 ?_;refine tC 2 F1 ?_;refine tS 1 F1 ?_;refine Or.inl (Or.inl ⟨_, k2, ?_⟩);refine tC 5 F1 ?_;refine tL F1 ?_;refine hk9 _ ?_;refine hn8 (some ([1, 3, 4], none)) _ ?_;refine eS fun K10 hn10 hr10 he10 => ?_;refine eS fun K11 hn11 hr11 he11 => ?_;refine eO fun K12 hk12 => ?_;refine tL F1 ?_;refine hk12 _ ?_;refine hn11 (some ([1, 3, 34], none)) _ ?_;refine eCf ?_;refine hn10 (some ([1, 3], none)) _ ?_;refine eS fun K13 hn13 hr13 he13 => ?_;refine eO fun K14 hk14 => ?_;refine tS 1 F1 ?_;refine Or.inl (Or.inl ⟨_, kp, ?_⟩);refine tZ F1 ?_;refine hk14 _ ?_;refine hn13 (some ([1, 3, 5], none)) _ ?_
  refine eS fun K15 hn15 hr15 he15 => ?_;refine eO fun K16 hk16 => ?_;refine tC 1 F1 ?_;refine tC 2 F1 ?_;refine tC 2 F1 ?_;refine tC 1 F1 ?_;refine tS 1 F1 ?_;refine tS 1 F1 ?_;refine Or.inl (Or.inl ⟨_, kc, ?_⟩);refine tL F1 ?_;refine hk16 _ ?_;refine hn15 (some ([1, 3, 5, 6], none)) _ ?_;refine eS fun K17 hn17 hr17 he17 => ?_;refine eS fun K18 hn18 hr18 he18 => ?_;refine eO fun K19 hk19 => ?_;refine tC 2 F1 ?_;refine tL F1 ?_;refine hk19 _ ?_;refine hn18 (some ([3, 5, 6, 45, 46, 47], none)) _ ?_;refine eB fun K20 hn20 hx20 hr20 he20 => ?_;refine eW (HpInv dd at' L l) (l.length) (some ([3, 5, 6, 45, 46, 47], some ([1, 2], 2))) ([]) ?_ ?_
  · try refine lp0 ?_
    exact ⟨0, W0, s0, by omega, hZ0, hW0, by omega, by rfl⟩
  · intro k S1 hI
    obtain ⟨i, w, s, hi, hZ, hW, rfl, rfl⟩ := hI
    have hcase : i = l.length ∨ (∃ p, l[i]? = some p ∧ p.kind = 2) ∨ (∃ p, l[i]? = some p ∧ p.kind ≠ 2) := by
      rcases Nat.lt_or_ge i l.length with h | h
      · by_cases hk : (l[i]).kind = 2
        · exact .inr (.inl ⟨_, List.getElem?_eq_getElem h, hk⟩)
        · exact .inr (.inr ⟨_, List.getElem?_eq_getElem h, hk⟩)
      · exact .inl (by omega)
    have hstp : ∀ p, p.kind ≠ 2 → ∃ s', HzW dd (stepM w p).1 s' ∧ HzStep w s p s' := fun p hp => hzW_step hZ p hp
    have hcas2 : i = l.length ∨ (∃ p, l[i]? = some p ∧ p.kind = 2) ∨ (∃ p s' y y' q, l[i]? = some p ∧ p.kind ≠ 2 ∧ HzW dd (stepM w p).1 s' ∧ w.tasks[0]? = some y ∧ (stepM w p).1.tasks[0]? = some y' ∧ y'.code = some (.prot q) ∧ q.fin = false ∧ y'.live = true ∧ (stepM w p).2 = false) ∨ (∃ p s' y y' q, l[i]? = some p ∧ p.kind ≠ 2 ∧ HzW dd (stepM w p).1 s' ∧ w.tasks[0]? = some y ∧ (stepM w p).1.tasks[0]? = some y' ∧ y'.code = some (.prot q) ∧ q.fin = false ∧ y'.live = true ∧ (stepM w p).2 = true ∧ p.kind ≠ 0) ∨ (∃ p s' y y' q, l[i]? = some p ∧ p.kind ≠ 2 ∧ HzW dd (stepM w p).1 s' ∧ w.tasks[0]? = some y ∧ (stepM w p).1.tasks[0]? = some y' ∧ y'.code = some (.prot q) ∧ q.fin = false ∧ y'.live = true ∧ (stepM w p).2 = true ∧ p.kind = 0 ∧ p.thread ≠ 1) ∨ (∃ p s' y y' q, l[i]? = some p ∧ p.kind ≠ 2 ∧ HzW dd (stepM w p).1 s' ∧ w.tasks[0]? = some y ∧ (stepM w p).1.tasks[0]? = some y' ∧ y'.code = some (.prot q) ∧ q.fin = false ∧ y'.live = true ∧ (stepM w p).2 = true ∧ p.kind = 0 ∧ p.thread = 1) ∨ (∃ p s' y y' q, l[i]? = some p ∧ p.kind ≠ 2 ∧ HzW dd (stepM w p).1 s' ∧ w.tasks[0]? = some y ∧ (stepM w p).1.tasks[0]? = some y' ∧ y'.code = some (.prot q) ∧ q.fin = true ∧ y'.live = false ∧ (stepM w p).2 = false) ∨ (∃ p s' y y' q, l[i]? = some p ∧ p.kind ≠ 2 ∧ HzW dd (stepM w p).1 s' ∧ w.tasks[0]? = some y ∧ (stepM w p).1.tasks[0]? = some y' ∧ y'.code = some (.prot q) ∧ q.fin = true ∧ y'.live = false ∧ (stepM w p).2 = true ∧ p.kind ≠ 0) ∨ (∃ p s' y y' q, l[i]? = some p ∧ p.kind ≠ 2 ∧ HzW dd (stepM w p).1 s' ∧ w.tasks[0]? = some y ∧ (stepM w p).1.tasks[0]? = some y' ∧ y'.code = some (.prot q) ∧ q.fin = true ∧ y'.live = false ∧ (stepM w p).2 = true ∧ p.kind = 0 ∧ p.thread ≠ 1) ∨ (∃ p s' y y' q, l[i]? = some p ∧ p.kind ≠ 2 ∧ HzW dd (stepM w p).1 s' ∧ w.tasks[0]? = some y ∧ (stepM w p).1.tasks[0]? = some y' ∧ y'.code = some (.prot q) ∧ q.fin = true ∧ y'.live = false ∧ (stepM w p).2 = true ∧ p.kind = 0 ∧ p.thread = 1 ∧ y.act = ⟨5, at', zWord, zWord⟩ ∧ Wd (stepM w p).1.m at' = q.word ∧ (Wd (stepM w p).1.m hp).val = q.word.val) := by
      rcases hcase with h | h | ⟨p, hp1, hp2⟩
      · exact .inl h
      · exact .inr (.inl h)
      · obtain ⟨s', hZ', hs'⟩ := hstp p hp2
        obtain ⟨y, y', q, e1, e2, e3, e4, e5⟩ := hst hZ hZ' hs'
        cases hf : q.fin
        · rw [hf] at e4
          cases hdid : (stepM w p).2
          · exact .inr (.inr (.inl ⟨p, s', y, y', q, hp1, hp2, hZ', e1, e2, e3, hf, e4, hdid⟩))
          · by_cases hk : p.kind = 0
            · by_cases ht : p.thread = 1
              · exact .inr (.inr (.inr (.inr (.inr (.inl ⟨p, s', y, y', q, hp1, hp2, hZ', e1, e2, e3, hf, e4, hdid, hk, ht⟩)))))
              · exact .inr (.inr (.inr (.inr (.inl ⟨p, s', y, y', q, hp1, hp2, hZ', e1, e2, e3, hf, e4, hdid, hk, ht⟩))))
            · exact .inr (.inr (.inr (.inl ⟨p, s', y, y', q, hp1, hp2, hZ', e1, e2, e3, hf, e4, hdid, hk⟩)))
        · rw [hf] at e4
          cases hdid : (stepM w p).2
          · exact .inr (.inr (.inr (.inr (.inr (.inr (.inl ⟨p, s', y, y', q, hp1, hp2, hZ', e1, e2, e3, hf, e4, hdid⟩))))))
          · by_cases hk : p.kind = 0
            · by_cases ht : p.thread = 1
              · obtain ⟨f1, f2, f3⟩ := e5 hdid hk ht hf
                exact .inr (.inr (.inr (.inr (.inr (.inr (.inr (.inr (.inr (⟨p, s', y, y', q, hp1, hp2, hZ', e1, e2, e3, hf, e4, hdid, hk, ht, f1, f2, f3⟩)))))))))
              · exact .inr (.inr (.inr (.inr (.inr (.inr (.inr (.inr (.inl ⟨p, s', y, y', q, hp1, hp2, hZ', e1, e2, e3, hf, e4, hdid, hk, ht⟩))))))))
            · exact .inr (.inr (.inr (.inr (.inr (.inr (.inr (.inl ⟨p, s', y, y', q, hp1, hp2, hZ', e1, e2, e3, hf, e4, hdid, hk⟩)))))))
    intro K21 hn21 hr21 he21
    rcases hcas2 with hcc | ⟨p, hp1, hp2⟩ | ⟨p, s', y, y', q, hp1, hp2, hZ', e1, e2, e3, hf, e4, hdid⟩ | ⟨p, s', y, y', q, hp1, hp2, hZ', e1, e2, e3, hf, e4, hdid, hk⟩ | ⟨p, s', y, y', q, hp1, hp2, hZ', e1, e2, e3, hf, e4, hdid, hk, ht⟩ | ⟨p, s', y, y', q, hp1, hp2, hZ', e1, e2, e3, hf, e4, hdid, hk, ht⟩ | ⟨p, s', y, y', q, hp1, hp2, hZ', e1, e2, e3, hf, e4, hdid⟩ | ⟨p, s', y, y', q, hp1, hp2, hZ', e1, e2, e3, hf, e4, hdid, hk⟩ | ⟨p, s', y, y', q, hp1, hp2, hZ', e1, e2, e3, hf, e4, hdid, hk, ht⟩ | ⟨p, s', y, y', q, hp1, hp2, hZ', e1, e2, e3, hf, e4, hdid, hk, ht, f1, f2, f3⟩
    · skip
      have x2 : ¬ (i : Int) < (l.length : Int) := by omega
      have F2 := And.intro F1 @x2
      refine eS fun K22 hn22 hr22 he22 => ?_;refine eO fun K23 hk23 => ?_;refine tZ F2 ?_;refine hk23 _ ?_;refine hn22 (some ([3, 5, 6, 45, 46, 47, 48], none)) _ ?_;refine eS fun K24 hn24 hr24 he24 => ?_;refine eCf ?_;refine he24 0 _ ?_;refine he21 0 _ ?_;refine hx20 _ ?_;refine hn17 (some ([], none)) _ ?_;refine eS fun K25 hn25 hr25 he25 => ?_;refine eO fun K26 hk26 => ?_;refine tS 1 F2 ?_;refine Or.inl (Or.inl ⟨_, ka, ?_⟩);refine tL F2 ?_;refine hk26 _ ?_;refine hn25 (some ([2], none)) _ ?_
      exact sf1 F2
    · skip
      have hcc := (List.getElem?_eq_some_iff.1 hp1).1
      have x2 : (i : Int) < (l.length : Int) := by omega
      have x3 : IntKind.i64.wrap ((i : Int) + 1) = ((i + 1 : Nat) : Int) := by rw [IntKind.wrap_i64]; omega
      have F3 := And.intro F1 (And.intro @x2 (And.intro @x3 (And.intro @hp1 @hp2)))
      refine eS fun K27 hn27 hr27 he27 => ?_;refine eO fun K28 hk28 => ?_;refine tZ F3 ?_;refine hk28 _ ?_;refine hn27 (some ([3, 5, 6, 45, 46, 47, 48], none)) _ ?_;refine eS fun K29 hn29 hr29 he29 => ?_;refine eCt ?_;refine hn29 (some ([3, 5, 6, 45, 46, 47], none)) _ ?_;refine eS fun K30 hn30 hr30 he30 => ?_;refine eB fun K31 hn31 hx31 hr31 he31 => ?_;refine eS fun K32 hn32 hr32 he32 => ?_;refine eO fun K33 hk33 => ?_;refine tC 1 F3 ?_;refine tC 1 F3 ?_;refine tZ F3 ?_;refine hk33 _ ?_;refine hn32 (some ([3, 5, 6, 8, 45, 46, 47], none)) _ ?_;refine eS fun K34 hn34 hr34 he34 => ?_;refine eS fun K35 hn35 hr35 he35 => ?_
      refine eO fun K36 hk36 => ?_;refine tC 2 F3 ?_;refine tZ F3 ?_;refine hk36 _ ?_;refine hn35 (some ([3, 5, 6, 8, 45, 46, 47, 53], none)) _ ?_;refine eCt ?_;refine he34 1 _ ?_;refine hx31 _ ?_;refine hn30 (some ([3, 5, 6, 45, 46, 47], none)) _ ?_;refine eO fun K37 hk37 => ?_;refine tC 1 F3 ?_;refine tL F3 ?_;refine hk37 _ ?_;refine hn21 (l.length - (i + 1)) (some ([3, 5, 6, 45, 46, 47], some ([0, 1], 2))) _ ?_ ?_
      all_goals try refine lp0 ?_
      · omega
      · exact ⟨i + 1, w, s, by omega, hZ, worldOk_up hW (by omega), by omega, by rfl⟩
    · skip
      have hcc := (List.getElem?_eq_some_iff.1 hp1).1
      have x2 : (i : Int) < (l.length : Int) := by omega
      have x3 : IntKind.i64.wrap ((i : Int) + 1) = ((i + 1 : Nat) : Int) := by rw [IntKind.wrap_i64]; omega
      have x4 : (p.kind == 2) = false := by simpa using hp2
      have k5 := ok_kAct y
      have k6 := ok_kStep w p hW (by omega)
      have hW' := stepOk hW p
      have x5 : (0 : Int) < (w.tasks.length : Int) := by have := hZ.len; omega
      have x6 : 0 < w.tasks.length := by omega
      rw [hdid] at k6
      generalize hw' : (stepM w p).1 = w' at k6 hZ' e2 hW'
      have x7 : (w'.tasks.length : Int) = 3 := by have := hZ'.len; omega
      have x8 : 0 < w'.tasks.length := by omega
      have x9 : (0 : Int) < 3 := by decide
      have k7 := ok_kCode y'
      rw [e3] at k7
      have k9 := ok_kDone y'
      rw [e4] at k9
      obtain ⟨qloc, qown, ⟨qv, qr, qf⟩, qfin, qpos⟩ := q
      obtain rfl : qfin = false := hf
      have k8 : Ok 28 [eCode hz (some (.prot ⟨qloc, qown, ⟨qv, qr, qf⟩, false, qpos⟩))] (.tup [.agg [sI 0, sU 0, sU 0], sB false]) := ok_hzWord (.prot ⟨qloc, qown, ⟨qv, qr, qf⟩, false, qpos⟩)
      have F4 := And.intro F1 (And.intro @x2 (And.intro @x3 (And.intro @hp1 (And.intro @x4 (And.intro @x5 (And.intro @x6 (And.intro @x7 (And.intro @x8 (And.intro @x9 (And.intro @e1 @e2))))))))))
      refine eS fun K38 hn38 hr38 he38 => ?_;refine eO fun K39 hk39 => ?_;refine tZ F4 ?_;refine hk39 _ ?_;refine hn38 (some ([3, 5, 6, 45, 46, 47, 48], none)) _ ?_;refine eS fun K40 hn40 hr40 he40 => ?_;refine eCt ?_;refine hn40 (some ([3, 5, 6, 45, 46, 47], none)) _ ?_;refine eS fun K41 hn41 hr41 he41 => ?_;refine eB fun K42 hn42 hx42 hr42 he42 => ?_;refine eS fun K43 hn43 hr43 he43 => ?_;refine eO fun K44 hk44 => ?_;refine tC 1 F4 ?_;refine tC 1 F4 ?_;refine tZ F4 ?_;refine hk44 _ ?_;refine hn43 (some ([3, 5, 6, 8, 45, 46, 47], none)) _ ?_;refine eS fun K45 hn45 hr45 he45 => ?_;refine eS fun K46 hn46 hr46 he46 => ?_
      refine eO fun K47 hk47 => ?_;refine tC 2 F4 ?_;refine tZ F4 ?_;refine hk47 _ ?_;refine hn46 (some ([3, 5, 6, 8, 45, 46, 47, 53], none)) _ ?_;refine eCf ?_;refine hn45 (some ([3, 5, 6, 8, 45, 46, 47], none)) _ ?_;refine eS fun K48 hn48 hr48 he48 => ?_;refine eO fun K49 hk49 => ?_;refine tC 2 F4 ?_;refine tC 1 F4 ?_;refine tC 1 F4 ?_;refine tS 1 F4 ?_;refine Or.inl (Or.inl ⟨_, k5, ?_⟩);refine tC 5 F4 ?_;refine tL F4 ?_;refine hk49 _ ?_;refine hn48 (some ([3, 5, 6, 8, 9, 45, 46, 47], none)) _ ?_;refine eS fun K50 hn50 hr50 he50 => ?_;refine eO fun K51 hk51 => ?_;refine tC 1 F4 ?_;refine tC 1 F4 ?_
      refine tS 1 F4 ?_;refine Or.inl (Or.inl ⟨_, k6, ?_⟩);refine tC 5 F4 ?_;refine tL F4 ?_;refine hk51 _ ?_;refine hn50 (some ([3, 5, 6, 8, 9, 11, 12, 45, 46, 47], none)) _ ?_;refine eS fun K52 hn52 hr52 he52 => ?_;refine eS fun K53 hn53 hr53 he53 => ?_;refine eO fun K54 hk54 => ?_;refine tC 2 F4 ?_;refine tZ F4 ?_;refine hk54 _ ?_;refine hn53 (some ([3, 5, 6, 8, 9, 11, 12, 45, 46, 47, 71], none)) _ ?_;refine eCf ?_;refine hn52 (some ([3, 5, 6, 8, 9, 11, 12, 45, 46, 47], none)) _ ?_;refine eS fun K55 hn55 hr55 he55 => ?_;refine eO fun K56 hk56 => ?_;refine tC 2 F4 ?_;refine tC 1 F4 ?_;refine tC 1 F4 ?_
      refine tS 1 F4 ?_;refine Or.inl (Or.inl ⟨_, k7, ?_⟩);refine tS 1 F4 ?_;refine Or.inl (Or.inl ⟨_, k8, ?_⟩);refine tC 5 F4 ?_;refine tL F4 ?_;refine hk56 _ ?_;refine hn55 (some ([3, 5, 6, 8, 9, 11, 12, 13, 14, 45, 46, 47], none)) _ ?_;refine eS fun K57 hn57 hr57 he57 => ?_;refine eS fun K58 hn58 hr58 he58 => ?_;refine eO fun K59 hk59 => ?_;refine tC 3 F4 ?_;refine tC 1 F4 ?_;refine tC 1 F4 ?_;refine tS 1 F4 ?_;refine Or.inl (Or.inl ⟨_, k9, ?_⟩);refine tS 1 F4 ?_;refine Or.inl ⟨_, eqsh_bool _ _, ?_⟩;refine tC 5 F4 ?_;refine tS 1 F4 ?_;refine tS 1 F4 ?_;refine Or.inl ⟨_, eqsh_word_refl zWord, ?_⟩
      refine tL F4 ?_;refine hk59 _ ?_;refine hn58 (some ([3, 5, 6, 8, 9, 11, 12, 13, 14, 45, 46, 47, 96], none)) _ ?_;refine eCf ?_;refine hn57 (some ([3, 5, 6, 8, 9, 11, 12, 13, 14, 45, 46, 47], none)) _ ?_;refine eS fun K60 hn60 hr60 he60 => ?_;refine eS fun K61 hn61 hr61 he61 => ?_;refine eO fun K62 hk62 => ?_;refine tC 4 F4 ?_;refine tC 1 F4 ?_;refine tC 4 F4 ?_;refine tC 1 F4 ?_;refine tL F4 ?_;refine hk62 _ ?_;refine hn61 (some ([3, 5, 6, 9, 11, 13, 45, 46, 47, 110], none)) _ ?_;refine eCf ?_;refine hn60 (some ([3, 5, 6, 11, 45, 46, 47], none)) _ ?_;refine eO fun K63 hk63 => ?_;refine tC 1 F4 ?_
      refine tZ F4 ?_;refine hk63 _ ?_;refine hn42 _ ?_;refine hn41 (some ([3, 5, 6, 45, 46, 47], none)) _ ?_;refine eO fun K64 hk64 => ?_;refine tC 1 F4 ?_;refine tL F4 ?_;refine hk64 _ ?_;refine hn21 (l.length - (i + 1)) (some ([3, 5, 6, 45, 46, 47], some ([0, 1], 2))) _ ?_ ?_
      all_goals try refine lp0 ?_
      · omega
      · exact ⟨i + 1, w', s', by omega, hZ', by have e9 : 2 + (i + 1) = 2 + i + 1 := rfl; rw [e9]; exact hW', by omega, by rfl⟩
    · skip
      have hcc := (List.getElem?_eq_some_iff.1 hp1).1
      have x2 : (i : Int) < (l.length : Int) := by omega
      have x3 : IntKind.i64.wrap ((i : Int) + 1) = ((i + 1 : Nat) : Int) := by rw [IntKind.wrap_i64]; omega
      have x4 : (p.kind == 2) = false := by simpa using hp2
      have k5 := ok_kAct y
      have k6 := ok_kStep w p hW (by omega)
      have hW' := stepOk hW p
      have x5 : (0 : Int) < (w.tasks.length : Int) := by have := hZ.len; omega
      have x6 : 0 < w.tasks.length := by omega
      rw [hdid] at k6
      generalize hw' : (stepM w p).1 = w' at k6 hZ' e2 hW'
      have x7 : (w'.tasks.length : Int) = 3 := by have := hZ'.len; omega
      have x8 : 0 < w'.tasks.length := by omega
      have x9 : (0 : Int) < 3 := by decide
      have k7 := ok_kCode y'
      rw [e3] at k7
      have k9 := ok_kDone y'
      rw [e4] at k9
      obtain ⟨qloc, qown, ⟨qv, qr, qf⟩, qfin, qpos⟩ := q
      obtain rfl : qfin = false := hf
      have k8 : Ok 28 [eCode hz (some (.prot ⟨qloc, qown, ⟨qv, qr, qf⟩, false, qpos⟩))] (.tup [.agg [sI 0, sU 0, sU 0], sB false]) := ok_hzWord (.prot ⟨qloc, qown, ⟨qv, qr, qf⟩, false, qpos⟩)
      have x10 : (p.kind == 0) = false := by simpa using hk
      have F5 := And.intro F1 (And.intro @x2 (And.intro @x3 (And.intro @hp1 (And.intro @x4 (And.intro @x5 (And.intro @x6 (And.intro @x7 (And.intro @x8 (And.intro @x9 (And.intro @e1 (And.intro @e2 @x10)))))))))))
      refine eS fun K65 hn65 hr65 he65 => ?_;refine eO fun K66 hk66 => ?_;refine tZ F5 ?_;refine hk66 _ ?_;refine hn65 (some ([3, 5, 6, 45, 46, 47, 48], none)) _ ?_;refine eS fun K67 hn67 hr67 he67 => ?_;refine eCt ?_;refine hn67 (some ([3, 5, 6, 45, 46, 47], none)) _ ?_;refine eS fun K68 hn68 hr68 he68 => ?_;refine eB fun K69 hn69 hx69 hr69 he69 => ?_;refine eS fun K70 hn70 hr70 he70 => ?_;refine eO fun K71 hk71 => ?_;refine tC 1 F5 ?_;refine tC 1 F5 ?_;refine tZ F5 ?_;refine hk71 _ ?_;refine hn70 (some ([3, 5, 6, 8, 45, 46, 47], none)) _ ?_;refine eS fun K72 hn72 hr72 he72 => ?_;refine eS fun K73 hn73 hr73 he73 => ?_
      refine eO fun K74 hk74 => ?_;refine tC 2 F5 ?_;refine tZ F5 ?_;refine hk74 _ ?_;refine hn73 (some ([3, 5, 6, 8, 45, 46, 47, 53], none)) _ ?_;refine eCf ?_;refine hn72 (some ([3, 5, 6, 8, 45, 46, 47], none)) _ ?_;refine eS fun K75 hn75 hr75 he75 => ?_;refine eO fun K76 hk76 => ?_;refine tC 2 F5 ?_;refine tC 1 F5 ?_;refine tC 1 F5 ?_;refine tS 1 F5 ?_;refine Or.inl (Or.inl ⟨_, k5, ?_⟩);refine tC 5 F5 ?_;refine tL F5 ?_;refine hk76 _ ?_;refine hn75 (some ([3, 5, 6, 8, 9, 45, 46, 47], none)) _ ?_;refine eS fun K77 hn77 hr77 he77 => ?_;refine eO fun K78 hk78 => ?_;refine tC 1 F5 ?_;refine tC 1 F5 ?_
      refine tS 1 F5 ?_;refine Or.inl (Or.inl ⟨_, k6, ?_⟩);refine tC 5 F5 ?_;refine tL F5 ?_;refine hk78 _ ?_;refine hn77 (some ([3, 5, 6, 8, 9, 11, 12, 45, 46, 47], none)) _ ?_;refine eS fun K79 hn79 hr79 he79 => ?_;refine eS fun K80 hn80 hr80 he80 => ?_;refine eO fun K81 hk81 => ?_;refine tC 2 F5 ?_;refine tZ F5 ?_;refine hk81 _ ?_;refine hn80 (some ([3, 5, 6, 8, 9, 11, 12, 45, 46, 47, 71], none)) _ ?_;refine eCf ?_;refine hn79 (some ([3, 5, 6, 8, 9, 11, 12, 45, 46, 47], none)) _ ?_;refine eS fun K82 hn82 hr82 he82 => ?_;refine eO fun K83 hk83 => ?_;refine tC 2 F5 ?_;refine tC 1 F5 ?_;refine tC 1 F5 ?_
      refine tS 1 F5 ?_;refine Or.inl (Or.inl ⟨_, k7, ?_⟩);refine tS 1 F5 ?_;refine Or.inl (Or.inl ⟨_, k8, ?_⟩);refine tC 5 F5 ?_;refine tL F5 ?_;refine hk83 _ ?_;refine hn82 (some ([3, 5, 6, 8, 9, 11, 12, 13, 14, 45, 46, 47], none)) _ ?_;refine eS fun K84 hn84 hr84 he84 => ?_;refine eS fun K85 hn85 hr85 he85 => ?_;refine eO fun K86 hk86 => ?_;refine tC 3 F5 ?_;refine tC 1 F5 ?_;refine tC 1 F5 ?_;refine tS 1 F5 ?_;refine Or.inl (Or.inl ⟨_, k9, ?_⟩);refine tS 1 F5 ?_;refine Or.inl ⟨_, eqsh_bool _ _, ?_⟩;refine tC 5 F5 ?_;refine tS 1 F5 ?_;refine tS 1 F5 ?_;refine Or.inl ⟨_, eqsh_word_refl zWord, ?_⟩
      refine tL F5 ?_;refine hk86 _ ?_;refine hn85 (some ([3, 5, 6, 8, 9, 11, 12, 13, 14, 45, 46, 47, 96], none)) _ ?_;refine eCf ?_;refine hn84 (some ([3, 5, 6, 8, 9, 11, 12, 13, 14, 45, 46, 47], none)) _ ?_;refine eS fun K87 hn87 hr87 he87 => ?_;refine eS fun K88 hn88 hr88 he88 => ?_;refine eO fun K89 hk89 => ?_;refine tC 4 F5 ?_;refine tC 1 F5 ?_;refine tC 4 F5 ?_;refine tC 1 F5 ?_;refine tL F5 ?_;refine hk89 _ ?_;refine hn88 (some ([3, 5, 6, 9, 11, 13, 45, 46, 47, 110], none)) _ ?_;refine eCf ?_;refine hn87 (some ([3, 5, 6, 11, 45, 46, 47], none)) _ ?_;refine eO fun K90 hk90 => ?_;refine tC 1 F5 ?_
      refine tZ F5 ?_;refine hk90 _ ?_;refine hn69 _ ?_;refine hn68 (some ([3, 5, 6, 45, 46, 47], none)) _ ?_;refine eO fun K91 hk91 => ?_;refine tC 1 F5 ?_;refine tL F5 ?_;refine hk91 _ ?_;refine hn21 (l.length - (i + 1)) (some ([3, 5, 6, 45, 46, 47], some ([0, 1], 2))) _ ?_ ?_
      all_goals try refine lp0 ?_
      · omega
      · exact ⟨i + 1, w', s', by omega, hZ', by have e9 : 2 + (i + 1) = 2 + i + 1 := rfl; rw [e9]; exact hW', by omega, by rfl⟩
    · skip
      have hcc := (List.getElem?_eq_some_iff.1 hp1).1
      have x2 : (i : Int) < (l.length : Int) := by omega
      have x3 : IntKind.i64.wrap ((i : Int) + 1) = ((i + 1 : Nat) : Int) := by rw [IntKind.wrap_i64]; omega
      have x4 : (p.kind == 2) = false := by simpa using hp2
      have k5 := ok_kAct y
      have k6 := ok_kStep w p hW (by omega)
      have hW' := stepOk hW p
      have x5 : (0 : Int) < (w.tasks.length : Int) := by have := hZ.len; omega
      have x6 : 0 < w.tasks.length := by omega
      rw [hdid] at k6
      generalize hw' : (stepM w p).1 = w' at k6 hZ' e2 hW'
      have x7 : (w'.tasks.length : Int) = 3 := by have := hZ'.len; omega
      have x8 : 0 < w'.tasks.length := by omega
      have x9 : (0 : Int) < 3 := by decide
      have k7 := ok_kCode y'
      rw [e3] at k7
      have k9 := ok_kDone y'
      rw [e4] at k9
      obtain ⟨qloc, qown, ⟨qv, qr, qf⟩, qfin, qpos⟩ := q
      obtain rfl : qfin = false := hf
      have k8 : Ok 28 [eCode hz (some (.prot ⟨qloc, qown, ⟨qv, qr, qf⟩, false, qpos⟩))] (.tup [.agg [sI 0, sU 0, sU 0], sB false]) := ok_hzWord (.prot ⟨qloc, qown, ⟨qv, qr, qf⟩, false, qpos⟩)
      have x10 : (p.thread == 1) = false := by simpa using ht
      have x11 : (p.kind == 0) = true := by simpa using hk
      have F6 := And.intro F1 (And.intro @x2 (And.intro @x3 (And.intro @hp1 (And.intro @x4 (And.intro @x5 (And.intro @x6 (And.intro @x7 (And.intro @x8 (And.intro @x9 (And.intro @e1 (And.intro @e2 (And.intro @x11 @x10))))))))))))
      refine eS fun K92 hn92 hr92 he92 => ?_;refine eO fun K93 hk93 => ?_;refine tZ F6 ?_;refine hk93 _ ?_;refine hn92 (some ([3, 5, 6, 45, 46, 47, 48], none)) _ ?_;refine eS fun K94 hn94 hr94 he94 => ?_;refine eCt ?_;refine hn94 (some ([3, 5, 6, 45, 46, 47], none)) _ ?_;refine eS fun K95 hn95 hr95 he95 => ?_;refine eB fun K96 hn96 hx96 hr96 he96 => ?_;refine eS fun K97 hn97 hr97 he97 => ?_;refine eO fun K98 hk98 => ?_;refine tC 1 F6 ?_;refine tC 1 F6 ?_;refine tZ F6 ?_;refine hk98 _ ?_;refine hn97 (some ([3, 5, 6, 8, 45, 46, 47], none)) _ ?_;refine eS fun K99 hn99 hr99 he99 => ?_;refine eS fun K100 hn100 hr100 he100 => ?_
      refine eO fun K101 hk101 => ?_;refine tC 2 F6 ?_;refine tZ F6 ?_;refine hk101 _ ?_;refine hn100 (some ([3, 5, 6, 8, 45, 46, 47, 53], none)) _ ?_;refine eCf ?_;refine hn99 (some ([3, 5, 6, 8, 45, 46, 47], none)) _ ?_;refine eS fun K102 hn102 hr102 he102 => ?_;refine eO fun K103 hk103 => ?_;refine tC 2 F6 ?_;refine tC 1 F6 ?_;refine tC 1 F6 ?_;refine tS 1 F6 ?_;refine Or.inl (Or.inl ⟨_, k5, ?_⟩);refine tC 5 F6 ?_;refine tL F6 ?_;refine hk103 _ ?_;refine hn102 (some ([3, 5, 6, 8, 9, 45, 46, 47], none)) _ ?_;refine eS fun K104 hn104 hr104 he104 => ?_;refine eO fun K105 hk105 => ?_;refine tC 1 F6 ?_
      refine tC 1 F6 ?_;refine tS 1 F6 ?_;refine Or.inl (Or.inl ⟨_, k6, ?_⟩);refine tC 5 F6 ?_;refine tL F6 ?_;refine hk105 _ ?_;refine hn104 (some ([3, 5, 6, 8, 9, 11, 12, 45, 46, 47], none)) _ ?_;refine eS fun K106 hn106 hr106 he106 => ?_;refine eS fun K107 hn107 hr107 he107 => ?_;refine eO fun K108 hk108 => ?_;refine tC 2 F6 ?_;refine tZ F6 ?_;refine hk108 _ ?_;refine hn107 (some ([3, 5, 6, 8, 9, 11, 12, 45, 46, 47, 71], none)) _ ?_;refine eCf ?_;refine hn106 (some ([3, 5, 6, 8, 9, 11, 12, 45, 46, 47], none)) _ ?_;refine eS fun K109 hn109 hr109 he109 => ?_;refine eO fun K110 hk110 => ?_;refine tC 2 F6 ?_
      refine tC 1 F6 ?_;refine tC 1 F6 ?_;refine tS 1 F6 ?_;refine Or.inl (Or.inl ⟨_, k7, ?_⟩);refine tS 1 F6 ?_;refine Or.inl (Or.inl ⟨_, k8, ?_⟩);refine tC 5 F6 ?_;refine tL F6 ?_;refine hk110 _ ?_;refine hn109 (some ([3, 5, 6, 8, 9, 11, 12, 13, 14, 45, 46, 47], none)) _ ?_;refine eS fun K111 hn111 hr111 he111 => ?_;refine eS fun K112 hn112 hr112 he112 => ?_;refine eO fun K113 hk113 => ?_;refine tC 3 F6 ?_;refine tC 1 F6 ?_;refine tC 1 F6 ?_;refine tS 1 F6 ?_;refine Or.inl (Or.inl ⟨_, k9, ?_⟩);refine tS 1 F6 ?_;refine Or.inl ⟨_, eqsh_bool _ _, ?_⟩;refine tC 5 F6 ?_;refine tS 1 F6 ?_;refine tS 1 F6 ?_
      refine Or.inl ⟨_, eqsh_word_refl zWord, ?_⟩;refine tL F6 ?_;refine hk113 _ ?_;refine hn112 (some ([3, 5, 6, 8, 9, 11, 12, 13, 14, 45, 46, 47, 96], none)) _ ?_;refine eCf ?_;refine hn111 (some ([3, 5, 6, 8, 9, 11, 12, 13, 14, 45, 46, 47], none)) _ ?_;refine eS fun K114 hn114 hr114 he114 => ?_;refine eS fun K115 hn115 hr115 he115 => ?_;refine eO fun K116 hk116 => ?_;refine tC 4 F6 ?_;refine tC 1 F6 ?_;refine tC 4 F6 ?_;refine tC 1 F6 ?_;refine tL F6 ?_;refine hk116 _ ?_;refine hn115 (some ([3, 5, 6, 9, 11, 13, 45, 46, 47, 110], none)) _ ?_;refine eCf ?_;refine hn114 (some ([3, 5, 6, 11, 45, 46, 47], none)) _ ?_
      refine eO fun K117 hk117 => ?_;refine tC 1 F6 ?_;refine tZ F6 ?_;refine hk117 _ ?_;refine hn96 _ ?_;refine hn95 (some ([3, 5, 6, 45, 46, 47], none)) _ ?_;refine eO fun K118 hk118 => ?_;refine tC 1 F6 ?_;refine tL F6 ?_;refine hk118 _ ?_;refine hn21 (l.length - (i + 1)) (some ([3, 5, 6, 45, 46, 47], some ([0, 1], 2))) _ ?_ ?_
      all_goals try refine lp0 ?_
      · omega
      · exact ⟨i + 1, w', s', by omega, hZ', by have e9 : 2 + (i + 1) = 2 + i + 1 := rfl; rw [e9]; exact hW', by omega, by rfl⟩
    · skip
      have hcc := (List.getElem?_eq_some_iff.1 hp1).1
      have x2 : (i : Int) < (l.length : Int) := by omega
      have x3 : IntKind.i64.wrap ((i : Int) + 1) = ((i + 1 : Nat) : Int) := by rw [IntKind.wrap_i64]; omega
      have x4 : (p.kind == 2) = false := by simpa using hp2
      have k5 := ok_kAct y
      have k6 := ok_kStep w p hW (by omega)
      have hW' := stepOk hW p
      have x5 : (0 : Int) < (w.tasks.length : Int) := by have := hZ.len; omega
      have x6 : 0 < w.tasks.length := by omega
      rw [hdid] at k6
      generalize hw' : (stepM w p).1 = w' at k6 hZ' e2 hW'
      have x7 : (w'.tasks.length : Int) = 3 := by have := hZ'.len; omega
      have x8 : 0 < w'.tasks.length := by omega
      have x9 : (0 : Int) < 3 := by decide
      have k7 := ok_kCode y'
      rw [e3] at k7
      have k9 := ok_kDone y'
      rw [e4] at k9
      obtain ⟨qloc, qown, ⟨qv, qr, qf⟩, qfin, qpos⟩ := q
      obtain rfl : qfin = false := hf
      have k8 : Ok 28 [eCode hz (some (.prot ⟨qloc, qown, ⟨qv, qr, qf⟩, false, qpos⟩))] (.tup [.agg [sI 0, sU 0, sU 0], sB false]) := ok_hzWord (.prot ⟨qloc, qown, ⟨qv, qr, qf⟩, false, qpos⟩)
      have x11 : (p.kind == 0) = true := by simpa using hk
      have x12 : (p.thread == 1) = true := by simpa using ht
      have F7 := And.intro F1 (And.intro @x2 (And.intro @x3 (And.intro @hp1 (And.intro @x4 (And.intro @x5 (And.intro @x6 (And.intro @x7 (And.intro @x8 (And.intro @x9 (And.intro @e1 (And.intro @e2 (And.intro @x11 @x12))))))))))))
      refine eS fun K119 hn119 hr119 he119 => ?_;refine eO fun K120 hk120 => ?_;refine tZ F7 ?_;refine hk120 _ ?_;refine hn119 (some ([3, 5, 6, 45, 46, 47, 48], none)) _ ?_;refine eS fun K121 hn121 hr121 he121 => ?_;refine eCt ?_;refine hn121 (some ([3, 5, 6, 45, 46, 47], none)) _ ?_;refine eS fun K122 hn122 hr122 he122 => ?_;refine eB fun K123 hn123 hx123 hr123 he123 => ?_;refine eS fun K124 hn124 hr124 he124 => ?_;refine eO fun K125 hk125 => ?_;refine tC 1 F7 ?_;refine tC 1 F7 ?_;refine tZ F7 ?_;refine hk125 _ ?_;refine hn124 (some ([3, 5, 6, 8, 45, 46, 47], none)) _ ?_;refine eS fun K126 hn126 hr126 he126 => ?_
      refine eS fun K127 hn127 hr127 he127 => ?_;refine eO fun K128 hk128 => ?_;refine tC 2 F7 ?_;refine tZ F7 ?_;refine hk128 _ ?_;refine hn127 (some ([3, 5, 6, 8, 45, 46, 47, 53], none)) _ ?_;refine eCf ?_;refine hn126 (some ([3, 5, 6, 8, 45, 46, 47], none)) _ ?_;refine eS fun K129 hn129 hr129 he129 => ?_;refine eO fun K130 hk130 => ?_;refine tC 2 F7 ?_;refine tC 1 F7 ?_;refine tC 1 F7 ?_;refine tS 1 F7 ?_;refine Or.inl (Or.inl ⟨_, k5, ?_⟩);refine tC 5 F7 ?_;refine tL F7 ?_;refine hk130 _ ?_;refine hn129 (some ([3, 5, 6, 8, 9, 45, 46, 47], none)) _ ?_;refine eS fun K131 hn131 hr131 he131 => ?_
      refine eO fun K132 hk132 => ?_;refine tC 1 F7 ?_;refine tC 1 F7 ?_;refine tS 1 F7 ?_;refine Or.inl (Or.inl ⟨_, k6, ?_⟩);refine tC 5 F7 ?_;refine tL F7 ?_;refine hk132 _ ?_;refine hn131 (some ([3, 5, 6, 8, 9, 11, 12, 45, 46, 47], none)) _ ?_;refine eS fun K133 hn133 hr133 he133 => ?_;refine eS fun K134 hn134 hr134 he134 => ?_;refine eO fun K135 hk135 => ?_;refine tC 2 F7 ?_;refine tZ F7 ?_;refine hk135 _ ?_;refine hn134 (some ([3, 5, 6, 8, 9, 11, 12, 45, 46, 47, 71], none)) _ ?_;refine eCf ?_;refine hn133 (some ([3, 5, 6, 8, 9, 11, 12, 45, 46, 47], none)) _ ?_;refine eS fun K136 hn136 hr136 he136 => ?_
      refine eO fun K137 hk137 => ?_;refine tC 2 F7 ?_;refine tC 1 F7 ?_;refine tC 1 F7 ?_;refine tS 1 F7 ?_;refine Or.inl (Or.inl ⟨_, k7, ?_⟩);refine tS 1 F7 ?_;refine Or.inl (Or.inl ⟨_, k8, ?_⟩);refine tC 5 F7 ?_;refine tL F7 ?_;refine hk137 _ ?_;refine hn136 (some ([3, 5, 6, 8, 9, 11, 12, 13, 14, 45, 46, 47], none)) _ ?_;refine eS fun K138 hn138 hr138 he138 => ?_;refine eS fun K139 hn139 hr139 he139 => ?_;refine eO fun K140 hk140 => ?_;refine tC 3 F7 ?_;refine tC 1 F7 ?_;refine tC 1 F7 ?_;refine tS 1 F7 ?_;refine Or.inl (Or.inl ⟨_, k9, ?_⟩);refine tS 1 F7 ?_;refine Or.inl ⟨_, eqsh_bool _ _, ?_⟩
      refine tC 5 F7 ?_;refine tS 1 F7 ?_;refine tS 1 F7 ?_;refine Or.inl ⟨_, eqsh_word_refl zWord, ?_⟩;refine tL F7 ?_;refine hk140 _ ?_;refine hn139 (some ([3, 5, 6, 8, 9, 11, 12, 13, 14, 45, 46, 47, 96], none)) _ ?_;refine eCf ?_;refine hn138 (some ([3, 5, 6, 8, 9, 11, 12, 13, 14, 45, 46, 47], none)) _ ?_;refine eS fun K141 hn141 hr141 he141 => ?_;refine eS fun K142 hn142 hr142 he142 => ?_;refine eO fun K143 hk143 => ?_;refine tC 4 F7 ?_;refine tC 1 F7 ?_;refine tC 4 F7 ?_;refine tC 1 F7 ?_;refine tL F7 ?_;refine hk143 _ ?_;refine hn142 (some ([3, 5, 6, 9, 11, 13, 45, 46, 47, 110], none)) _ ?_
      refine eCf ?_;refine hn141 (some ([3, 5, 6, 11, 45, 46, 47], none)) _ ?_;refine eO fun K144 hk144 => ?_;refine tC 1 F7 ?_;refine tZ F7 ?_;refine hk144 _ ?_;refine hn123 _ ?_;refine hn122 (some ([3, 5, 6, 45, 46, 47], none)) _ ?_;refine eO fun K145 hk145 => ?_;refine tC 1 F7 ?_;refine tL F7 ?_;refine hk145 _ ?_;refine hn21 (l.length - (i + 1)) (some ([3, 5, 6, 45, 46, 47], some ([0, 1], 2))) _ ?_ ?_
      all_goals try refine lp0 ?_
      · omega
      · exact ⟨i + 1, w', s', by omega, hZ', by have e9 : 2 + (i + 1) = 2 + i + 1 := rfl; rw [e9]; exact hW', by omega, by rfl⟩
    · skip
      have hcc := (List.getElem?_eq_some_iff.1 hp1).1
      have x2 : (i : Int) < (l.length : Int) := by omega
      have x3 : IntKind.i64.wrap ((i : Int) + 1) = ((i + 1 : Nat) : Int) := by rw [IntKind.wrap_i64]; omega
      have x4 : (p.kind == 2) = false := by simpa using hp2
      have k5 := ok_kAct y
      have k6 := ok_kStep w p hW (by omega)
      have hW' := stepOk hW p
      have x5 : (0 : Int) < (w.tasks.length : Int) := by have := hZ.len; omega
      have x6 : 0 < w.tasks.length := by omega
      rw [hdid] at k6
      generalize hw' : (stepM w p).1 = w' at k6 hZ' e2 hW'
      have x7 : (w'.tasks.length : Int) = 3 := by have := hZ'.len; omega
      have x8 : 0 < w'.tasks.length := by omega
      have x9 : (0 : Int) < 3 := by decide
      have k7 := ok_kCode y'
      rw [e3] at k7
      have k9 := ok_kDone y'
      rw [e4] at k9
      obtain ⟨qloc, qown, ⟨qv, qr, qf⟩, qfin, qpos⟩ := q
      obtain rfl : qfin = true := hf
      have k8 : Ok 28 [eCode hz (some (.prot ⟨qloc, qown, ⟨qv, qr, qf⟩, true, qpos⟩))] (.tup [.agg [sI qv, sU qr, sU qf], sB true]) := ok_hzWord (.prot ⟨qloc, qown, ⟨qv, qr, qf⟩, true, qpos⟩)
      have F8 := And.intro F1 (And.intro @x2 (And.intro @x3 (And.intro @hp1 (And.intro @x4 (And.intro @x5 (And.intro @x6 (And.intro @x7 (And.intro @x8 (And.intro @x9 (And.intro @e1 @e2))))))))))
      refine eS fun K146 hn146 hr146 he146 => ?_;refine eO fun K147 hk147 => ?_;refine tZ F8 ?_;refine hk147 _ ?_;refine hn146 (some ([3, 5, 6, 45, 46, 47, 48], none)) _ ?_;refine eS fun K148 hn148 hr148 he148 => ?_;refine eCt ?_;refine hn148 (some ([3, 5, 6, 45, 46, 47], none)) _ ?_;refine eS fun K149 hn149 hr149 he149 => ?_;refine eB fun K150 hn150 hx150 hr150 he150 => ?_;refine eS fun K151 hn151 hr151 he151 => ?_;refine eO fun K152 hk152 => ?_;refine tC 1 F8 ?_;refine tC 1 F8 ?_;refine tZ F8 ?_;refine hk152 _ ?_;refine hn151 (some ([3, 5, 6, 8, 45, 46, 47], none)) _ ?_;refine eS fun K153 hn153 hr153 he153 => ?_
      refine eS fun K154 hn154 hr154 he154 => ?_;refine eO fun K155 hk155 => ?_;refine tC 2 F8 ?_;refine tZ F8 ?_;refine hk155 _ ?_;refine hn154 (some ([3, 5, 6, 8, 45, 46, 47, 53], none)) _ ?_;refine eCf ?_;refine hn153 (some ([3, 5, 6, 8, 45, 46, 47], none)) _ ?_;refine eS fun K156 hn156 hr156 he156 => ?_;refine eO fun K157 hk157 => ?_;refine tC 2 F8 ?_;refine tC 1 F8 ?_;refine tC 1 F8 ?_;refine tS 1 F8 ?_;refine Or.inl (Or.inl ⟨_, k5, ?_⟩);refine tC 5 F8 ?_;refine tL F8 ?_;refine hk157 _ ?_;refine hn156 (some ([3, 5, 6, 8, 9, 45, 46, 47], none)) _ ?_;refine eS fun K158 hn158 hr158 he158 => ?_
      refine eO fun K159 hk159 => ?_;refine tC 1 F8 ?_;refine tC 1 F8 ?_;refine tS 1 F8 ?_;refine Or.inl (Or.inl ⟨_, k6, ?_⟩);refine tC 5 F8 ?_;refine tL F8 ?_;refine hk159 _ ?_;refine hn158 (some ([3, 5, 6, 8, 9, 11, 12, 45, 46, 47], none)) _ ?_;refine eS fun K160 hn160 hr160 he160 => ?_;refine eS fun K161 hn161 hr161 he161 => ?_;refine eO fun K162 hk162 => ?_;refine tC 2 F8 ?_;refine tZ F8 ?_;refine hk162 _ ?_;refine hn161 (some ([3, 5, 6, 8, 9, 11, 12, 45, 46, 47, 71], none)) _ ?_;refine eCf ?_;refine hn160 (some ([3, 5, 6, 8, 9, 11, 12, 45, 46, 47], none)) _ ?_;refine eS fun K163 hn163 hr163 he163 => ?_
      refine eO fun K164 hk164 => ?_;refine tC 2 F8 ?_;refine tC 1 F8 ?_;refine tC 1 F8 ?_;refine tS 1 F8 ?_;refine Or.inl (Or.inl ⟨_, k7, ?_⟩);refine tS 1 F8 ?_;refine Or.inl (Or.inl ⟨_, k8, ?_⟩);refine tC 5 F8 ?_;refine tL F8 ?_;refine hk164 _ ?_;refine hn163 (some ([3, 5, 6, 8, 9, 11, 12, 13, 14, 45, 46, 47], none)) _ ?_;refine eS fun K165 hn165 hr165 he165 => ?_;refine eS fun K166 hn166 hr166 he166 => ?_;refine eO fun K167 hk167 => ?_;refine tC 3 F8 ?_;refine tC 1 F8 ?_;refine tC 1 F8 ?_;refine tS 1 F8 ?_;refine Or.inl (Or.inl ⟨_, k9, ?_⟩);refine tS 1 F8 ?_;refine Or.inl ⟨_, eqsh_bool _ _, ?_⟩
      refine tC 5 F8 ?_;refine tS 1 F8 ?_;refine tS 1 F8 ?_
      skip
      refine tL F8 ?_;refine hk167 _ ?_;refine hn166 (some ([3, 5, 6, 8, 9, 11, 12, 13, 14, 45, 46, 47, 96], none)) _ ?_;refine eCf ?_;refine hn165 (some ([3, 5, 6, 8, 9, 11, 12, 13, 14, 45, 46, 47], none)) _ ?_;refine eS fun K168 hn168 hr168 he168 => ?_;refine eS fun K169 hn169 hr169 he169 => ?_;refine eO fun K170 hk170 => ?_;refine tC 4 F8 ?_;refine tC 1 F8 ?_;refine tC 4 F8 ?_;refine tC 1 F8 ?_;refine tL F8 ?_;refine hk170 _ ?_;refine hn169 (some ([3, 5, 6, 9, 11, 13, 45, 46, 47, 110], none)) _ ?_;refine eCf ?_;refine hn168 (some ([3, 5, 6, 11, 45, 46, 47], none)) _ ?_;refine eO fun K171 hk171 => ?_
      refine tC 1 F8 ?_;refine tZ F8 ?_;refine hk171 _ ?_;refine hn150 _ ?_;refine hn149 (some ([3, 5, 6, 45, 46, 47], none)) _ ?_;refine eO fun K172 hk172 => ?_;refine tC 1 F8 ?_;refine tL F8 ?_;refine hk172 _ ?_;refine hn21 (l.length - (i + 1)) (some ([3, 5, 6, 45, 46, 47], some ([0, 1], 2))) _ ?_ ?_
      all_goals try refine lp0 ?_
      · omega
      · exact ⟨i + 1, w', s', by omega, hZ', by have e9 : 2 + (i + 1) = 2 + i + 1 := rfl; rw [e9]; exact hW', by omega, by rfl⟩
    · skip
      have hcc := (List.getElem?_eq_some_iff.1 hp1).1
      have x2 : (i : Int) < (l.length : Int) := by omega
      have x3 : IntKind.i64.wrap ((i : Int) + 1) = ((i + 1 : Nat) : Int) := by rw [IntKind.wrap_i64]; omega
      have x4 : (p.kind == 2) = false := by simpa using hp2
      have k5 := ok_kAct y
      have k6 := ok_kStep w p hW (by omega)
      have hW' := stepOk hW p
      have x5 : (0 : Int) < (w.tasks.length : Int) := by have := hZ.len; omega
      have x6 : 0 < w.tasks.length := by omega
      rw [hdid] at k6
      generalize hw' : (stepM w p).1 = w' at k6 hZ' e2 hW'
      have x7 : (w'.tasks.length : Int) = 3 := by have := hZ'.len; omega
      have x8 : 0 < w'.tasks.length := by omega
      have x9 : (0 : Int) < 3 := by decide
      have k7 := ok_kCode y'
      rw [e3] at k7
      have k9 := ok_kDone y'
      rw [e4] at k9
      obtain ⟨qloc, qown, ⟨qv, qr, qf⟩, qfin, qpos⟩ := q
      obtain rfl : qfin = true := hf
      have k8 : Ok 28 [eCode hz (some (.prot ⟨qloc, qown, ⟨qv, qr, qf⟩, true, qpos⟩))] (.tup [.agg [sI qv, sU qr, sU qf], sB true]) := ok_hzWord (.prot ⟨qloc, qown, ⟨qv, qr, qf⟩, true, qpos⟩)
      have x10 : (p.kind == 0) = false := by simpa using hk
      have F9 := And.intro F1 (And.intro @x2 (And.intro @x3 (And.intro @hp1 (And.intro @x4 (And.intro @x5 (And.intro @x6 (And.intro @x7 (And.intro @x8 (And.intro @x9 (And.intro @e1 (And.intro @e2 @x10)))))))))))
      refine eS fun K173 hn173 hr173 he173 => ?_;refine eO fun K174 hk174 => ?_;refine tZ F9 ?_;refine hk174 _ ?_;refine hn173 (some ([3, 5, 6, 45, 46, 47, 48], none)) _ ?_;refine eS fun K175 hn175 hr175 he175 => ?_;refine eCt ?_;refine hn175 (some ([3, 5, 6, 45, 46, 47], none)) _ ?_;refine eS fun K176 hn176 hr176 he176 => ?_;refine eB fun K177 hn177 hx177 hr177 he177 => ?_;refine eS fun K178 hn178 hr178 he178 => ?_;refine eO fun K179 hk179 => ?_;refine tC 1 F9 ?_;refine tC 1 F9 ?_;refine tZ F9 ?_;refine hk179 _ ?_;refine hn178 (some ([3, 5, 6, 8, 45, 46, 47], none)) _ ?_;refine eS fun K180 hn180 hr180 he180 => ?_
      refine eS fun K181 hn181 hr181 he181 => ?_;refine eO fun K182 hk182 => ?_;refine tC 2 F9 ?_;refine tZ F9 ?_;refine hk182 _ ?_;refine hn181 (some ([3, 5, 6, 8, 45, 46, 47, 53], none)) _ ?_;refine eCf ?_;refine hn180 (some ([3, 5, 6, 8, 45, 46, 47], none)) _ ?_;refine eS fun K183 hn183 hr183 he183 => ?_;refine eO fun K184 hk184 => ?_;refine tC 2 F9 ?_;refine tC 1 F9 ?_;refine tC 1 F9 ?_;refine tS 1 F9 ?_;refine Or.inl (Or.inl ⟨_, k5, ?_⟩);refine tC 5 F9 ?_;refine tL F9 ?_;refine hk184 _ ?_;refine hn183 (some ([3, 5, 6, 8, 9, 45, 46, 47], none)) _ ?_;refine eS fun K185 hn185 hr185 he185 => ?_
      refine eO fun K186 hk186 => ?_;refine tC 1 F9 ?_;refine tC 1 F9 ?_;refine tS 1 F9 ?_;refine Or.inl (Or.inl ⟨_, k6, ?_⟩);refine tC 5 F9 ?_;refine tL F9 ?_;refine hk186 _ ?_;refine hn185 (some ([3, 5, 6, 8, 9, 11, 12, 45, 46, 47], none)) _ ?_;refine eS fun K187 hn187 hr187 he187 => ?_;refine eS fun K188 hn188 hr188 he188 => ?_;refine eO fun K189 hk189 => ?_;refine tC 2 F9 ?_;refine tZ F9 ?_;refine hk189 _ ?_;refine hn188 (some ([3, 5, 6, 8, 9, 11, 12, 45, 46, 47, 71], none)) _ ?_;refine eCf ?_;refine hn187 (some ([3, 5, 6, 8, 9, 11, 12, 45, 46, 47], none)) _ ?_;refine eS fun K190 hn190 hr190 he190 => ?_
      refine eO fun K191 hk191 => ?_;refine tC 2 F9 ?_;refine tC 1 F9 ?_;refine tC 1 F9 ?_;refine tS 1 F9 ?_;refine Or.inl (Or.inl ⟨_, k7, ?_⟩);refine tS 1 F9 ?_;refine Or.inl (Or.inl ⟨_, k8, ?_⟩);refine tC 5 F9 ?_;refine tL F9 ?_;refine hk191 _ ?_;refine hn190 (some ([3, 5, 6, 8, 9, 11, 12, 13, 14, 45, 46, 47], none)) _ ?_;refine eS fun K192 hn192 hr192 he192 => ?_;refine eS fun K193 hn193 hr193 he193 => ?_;refine eO fun K194 hk194 => ?_;refine tC 3 F9 ?_;refine tC 1 F9 ?_;refine tC 1 F9 ?_;refine tS 1 F9 ?_;refine Or.inl (Or.inl ⟨_, k9, ?_⟩);refine tS 1 F9 ?_;refine Or.inl ⟨_, eqsh_bool _ _, ?_⟩
      refine tC 5 F9 ?_;refine tS 1 F9 ?_;refine tS 1 F9 ?_
      skip
      refine tL F9 ?_;refine hk194 _ ?_;refine hn193 (some ([3, 5, 6, 8, 9, 11, 12, 13, 14, 45, 46, 47, 96], none)) _ ?_;refine eCf ?_;refine hn192 (some ([3, 5, 6, 8, 9, 11, 12, 13, 14, 45, 46, 47], none)) _ ?_;refine eS fun K195 hn195 hr195 he195 => ?_;refine eS fun K196 hn196 hr196 he196 => ?_;refine eO fun K197 hk197 => ?_;refine tC 4 F9 ?_;refine tC 1 F9 ?_;refine tC 4 F9 ?_;refine tC 1 F9 ?_;refine tL F9 ?_;refine hk197 _ ?_;refine hn196 (some ([3, 5, 6, 9, 11, 13, 45, 46, 47, 110], none)) _ ?_;refine eCf ?_;refine hn195 (some ([3, 5, 6, 11, 45, 46, 47], none)) _ ?_;refine eO fun K198 hk198 => ?_
      refine tC 1 F9 ?_;refine tZ F9 ?_;refine hk198 _ ?_;refine hn177 _ ?_;refine hn176 (some ([3, 5, 6, 45, 46, 47], none)) _ ?_;refine eO fun K199 hk199 => ?_;refine tC 1 F9 ?_;refine tL F9 ?_;refine hk199 _ ?_;refine hn21 (l.length - (i + 1)) (some ([3, 5, 6, 45, 46, 47], some ([0, 1], 2))) _ ?_ ?_
      all_goals try refine lp0 ?_
      · omega
      · exact ⟨i + 1, w', s', by omega, hZ', by have e9 : 2 + (i + 1) = 2 + i + 1 := rfl; rw [e9]; exact hW', by omega, by rfl⟩
    · skip
      have hcc := (List.getElem?_eq_some_iff.1 hp1).1
      have x2 : (i : Int) < (l.length : Int) := by omega
      have x3 : IntKind.i64.wrap ((i : Int) + 1) = ((i + 1 : Nat) : Int) := by rw [IntKind.wrap_i64]; omega
      have x4 : (p.kind == 2) = false := by simpa using hp2
      have k5 := ok_kAct y
      have k6 := ok_kStep w p hW (by omega)
      have hW' := stepOk hW p
      have x5 : (0 : Int) < (w.tasks.length : Int) := by have := hZ.len; omega
      have x6 : 0 < w.tasks.length := by omega
      rw [hdid] at k6
      generalize hw' : (stepM w p).1 = w' at k6 hZ' e2 hW'
      have x7 : (w'.tasks.length : Int) = 3 := by have := hZ'.len; omega
      have x8 : 0 < w'.tasks.length := by omega
      have x9 : (0 : Int) < 3 := by decide
      have k7 := ok_kCode y'
      rw [e3] at k7
      have k9 := ok_kDone y'
      rw [e4] at k9
      obtain ⟨qloc, qown, ⟨qv, qr, qf⟩, qfin, qpos⟩ := q
      obtain rfl : qfin = true := hf
      have k8 : Ok 28 [eCode hz (some (.prot ⟨qloc, qown, ⟨qv, qr, qf⟩, true, qpos⟩))] (.tup [.agg [sI qv, sU qr, sU qf], sB true]) := ok_hzWord (.prot ⟨qloc, qown, ⟨qv, qr, qf⟩, true, qpos⟩)
      have x10 : (p.thread == 1) = false := by simpa using ht
      have x11 : (p.kind == 0) = true := by simpa using hk
      have F10 := And.intro F1 (And.intro @x2 (And.intro @x3 (And.intro @hp1 (And.intro @x4 (And.intro @x5 (And.intro @x6 (And.intro @x7 (And.intro @x8 (And.intro @x9 (And.intro @e1 (And.intro @e2 (And.intro @x11 @x10))))))))))))
      refine eS fun K200 hn200 hr200 he200 => ?_;refine eO fun K201 hk201 => ?_;refine tZ F10 ?_;refine hk201 _ ?_;refine hn200 (some ([3, 5, 6, 45, 46, 47, 48], none)) _ ?_;refine eS fun K202 hn202 hr202 he202 => ?_;refine eCt ?_;refine hn202 (some ([3, 5, 6, 45, 46, 47], none)) _ ?_;refine eS fun K203 hn203 hr203 he203 => ?_;refine eB fun K204 hn204 hx204 hr204 he204 => ?_;refine eS fun K205 hn205 hr205 he205 => ?_;refine eO fun K206 hk206 => ?_;refine tC 1 F10 ?_;refine tC 1 F10 ?_;refine tZ F10 ?_;refine hk206 _ ?_;refine hn205 (some ([3, 5, 6, 8, 45, 46, 47], none)) _ ?_;refine eS fun K207 hn207 hr207 he207 => ?_
      refine eS fun K208 hn208 hr208 he208 => ?_;refine eO fun K209 hk209 => ?_;refine tC 2 F10 ?_;refine tZ F10 ?_;refine hk209 _ ?_;refine hn208 (some ([3, 5, 6, 8, 45, 46, 47, 53], none)) _ ?_;refine eCf ?_;refine hn207 (some ([3, 5, 6, 8, 45, 46, 47], none)) _ ?_;refine eS fun K210 hn210 hr210 he210 => ?_;refine eO fun K211 hk211 => ?_;refine tC 2 F10 ?_;refine tC 1 F10 ?_;refine tC 1 F10 ?_;refine tS 1 F10 ?_;refine Or.inl (Or.inl ⟨_, k5, ?_⟩);refine tC 5 F10 ?_;refine tL F10 ?_;refine hk211 _ ?_;refine hn210 (some ([3, 5, 6, 8, 9, 45, 46, 47], none)) _ ?_;refine eS fun K212 hn212 hr212 he212 => ?_
      refine eO fun K213 hk213 => ?_;refine tC 1 F10 ?_;refine tC 1 F10 ?_;refine tS 1 F10 ?_;refine Or.inl (Or.inl ⟨_, k6, ?_⟩);refine tC 5 F10 ?_;refine tL F10 ?_;refine hk213 _ ?_;refine hn212 (some ([3, 5, 6, 8, 9, 11, 12, 45, 46, 47], none)) _ ?_;refine eS fun K214 hn214 hr214 he214 => ?_;refine eS fun K215 hn215 hr215 he215 => ?_;refine eO fun K216 hk216 => ?_;refine tC 2 F10 ?_;refine tZ F10 ?_;refine hk216 _ ?_;refine hn215 (some ([3, 5, 6, 8, 9, 11, 12, 45, 46, 47, 71], none)) _ ?_;refine eCf ?_;refine hn214 (some ([3, 5, 6, 8, 9, 11, 12, 45, 46, 47], none)) _ ?_;refine eS fun K217 hn217 hr217 he217 => ?_
      refine eO fun K218 hk218 => ?_;refine tC 2 F10 ?_;refine tC 1 F10 ?_;refine tC 1 F10 ?_;refine tS 1 F10 ?_;refine Or.inl (Or.inl ⟨_, k7, ?_⟩);refine tS 1 F10 ?_;refine Or.inl (Or.inl ⟨_, k8, ?_⟩);refine tC 5 F10 ?_;refine tL F10 ?_;refine hk218 _ ?_;refine hn217 (some ([3, 5, 6, 8, 9, 11, 12, 13, 14, 45, 46, 47], none)) _ ?_;refine eS fun K219 hn219 hr219 he219 => ?_;refine eS fun K220 hn220 hr220 he220 => ?_;refine eO fun K221 hk221 => ?_;refine tC 3 F10 ?_;refine tC 1 F10 ?_;refine tC 1 F10 ?_;refine tS 1 F10 ?_;refine Or.inl (Or.inl ⟨_, k9, ?_⟩);refine tS 1 F10 ?_;refine Or.inl ⟨_, eqsh_bool _ _, ?_⟩
      refine tC 5 F10 ?_;refine tS 1 F10 ?_;refine tS 1 F10 ?_
      skip
      refine tL F10 ?_;refine hk221 _ ?_;refine hn220 (some ([3, 5, 6, 8, 9, 11, 12, 13, 14, 45, 46, 47, 96], none)) _ ?_;refine eCf ?_;refine hn219 (some ([3, 5, 6, 8, 9, 11, 12, 13, 14, 45, 46, 47], none)) _ ?_;refine eS fun K222 hn222 hr222 he222 => ?_;refine eS fun K223 hn223 hr223 he223 => ?_;refine eO fun K224 hk224 => ?_;refine tC 4 F10 ?_;refine tC 1 F10 ?_;refine tC 4 F10 ?_;refine tC 1 F10 ?_;refine tL F10 ?_;refine hk224 _ ?_;refine hn223 (some ([3, 5, 6, 9, 11, 13, 45, 46, 47, 110], none)) _ ?_;refine eCf ?_;refine hn222 (some ([3, 5, 6, 11, 45, 46, 47], none)) _ ?_;refine eO fun K225 hk225 => ?_
      refine tC 1 F10 ?_;refine tZ F10 ?_;refine hk225 _ ?_;refine hn204 _ ?_;refine hn203 (some ([3, 5, 6, 45, 46, 47], none)) _ ?_;refine eO fun K226 hk226 => ?_;refine tC 1 F10 ?_;refine tL F10 ?_;refine hk226 _ ?_;refine hn21 (l.length - (i + 1)) (some ([3, 5, 6, 45, 46, 47], some ([0, 1], 2))) _ ?_ ?_
      all_goals try refine lp0 ?_
      · omega
      · exact ⟨i + 1, w', s', by omega, hZ', by have e9 : 2 + (i + 1) = 2 + i + 1 := rfl; rw [e9]; exact hW', by omega, by rfl⟩
    · skip
      have hcc := (List.getElem?_eq_some_iff.1 hp1).1
      have x2 : (i : Int) < (l.length : Int) := by omega
      have x3 : IntKind.i64.wrap ((i : Int) + 1) = ((i + 1 : Nat) : Int) := by rw [IntKind.wrap_i64]; omega
      have x4 : (p.kind == 2) = false := by simpa using hp2
      have k5 := ok_kAct y
      have k6 := ok_kStep w p hW (by omega)
      have hW' := stepOk hW p
      have x5 : (0 : Int) < (w.tasks.length : Int) := by have := hZ.len; omega
      have x6 : 0 < w.tasks.length := by omega
      rw [hdid] at k6
      rw [f1] at k5
      generalize hw' : (stepM w p).1 = w' at k6 hZ' e2 hW' f2 f3
      have x7 : (w'.tasks.length : Int) = 3 := by have := hZ'.len; omega
      have x8 : 0 < w'.tasks.length := by omega
      have x9 : (0 : Int) < 3 := by decide
      have k7 := ok_kCode y'
      rw [e3] at k7
      have k9 := ok_kDone y'
      rw [e4] at k9
      obtain ⟨qloc, qown, ⟨qv, qr, qf⟩, qfin, qpos⟩ := q
      obtain rfl : qfin = true := hf
      have k8 : Ok 28 [eCode hz (some (.prot ⟨qloc, qown, ⟨qv, qr, qf⟩, true, qpos⟩))] (.tup [.agg [sI qv, sU qr, sU qf], sB true]) := ok_hzWord (.prot ⟨qloc, qown, ⟨qv, qr, qf⟩, true, qpos⟩)
      have k10 := ok_cWord w'.m at' hW'.mach.mem (by omega)
      change Ok _ _ (.tup [.agg (eWord (Wd w'.m at')), _]) at k10
      rw [f2] at k10
      generalize decide (PlcB w'.m.mem at') = b5 at k10
      have k12 := ok_l14val w' hp hW' (by omega)
      rw [f3] at k12
      have x11 : (p.kind == 0) = true := by simpa using hk
      have x12 : (p.thread == 1) = true := by simpa using ht
      have F11 := And.intro F1 (And.intro @x2 (And.intro @x3 (And.intro @hp1 (And.intro @x4 (And.intro @x5 (And.intro @x6 (And.intro @x7 (And.intro @x8 (And.intro @x9 (And.intro @e1 (And.intro @e2 (And.intro @x11 @x12))))))))))))
      refine eS fun K227 hn227 hr227 he227 => ?_;refine eO fun K228 hk228 => ?_;refine tZ F11 ?_;refine hk228 _ ?_;refine hn227 (some ([3, 5, 6, 45, 46, 47, 48], none)) _ ?_;refine eS fun K229 hn229 hr229 he229 => ?_;refine eCt ?_;refine hn229 (some ([3, 5, 6, 45, 46, 47], none)) _ ?_;refine eS fun K230 hn230 hr230 he230 => ?_;refine eB fun K231 hn231 hx231 hr231 he231 => ?_;refine eS fun K232 hn232 hr232 he232 => ?_;refine eO fun K233 hk233 => ?_;refine tC 1 F11 ?_;refine tC 1 F11 ?_;refine tZ F11 ?_;refine hk233 _ ?_;refine hn232 (some ([3, 5, 6, 8, 45, 46, 47], none)) _ ?_;refine eS fun K234 hn234 hr234 he234 => ?_
      refine eS fun K235 hn235 hr235 he235 => ?_;refine eO fun K236 hk236 => ?_;refine tC 2 F11 ?_;refine tZ F11 ?_;refine hk236 _ ?_;refine hn235 (some ([3, 5, 6, 8, 45, 46, 47, 53], none)) _ ?_;refine eCf ?_;refine hn234 (some ([3, 5, 6, 8, 45, 46, 47], none)) _ ?_;refine eS fun K237 hn237 hr237 he237 => ?_;refine eO fun K238 hk238 => ?_;refine tC 2 F11 ?_;refine tC 1 F11 ?_;refine tC 1 F11 ?_;refine tS 1 F11 ?_;refine Or.inl (Or.inl ⟨_, k5, ?_⟩);refine tC 5 F11 ?_;refine tL F11 ?_;refine hk238 _ ?_;refine hn237 (some ([3, 5, 6, 8, 9, 45, 46, 47], none)) _ ?_;refine eS fun K239 hn239 hr239 he239 => ?_
      refine eO fun K240 hk240 => ?_;refine tC 1 F11 ?_;refine tC 1 F11 ?_;refine tS 1 F11 ?_;refine Or.inl (Or.inl ⟨_, k6, ?_⟩);refine tC 5 F11 ?_;refine tL F11 ?_;refine hk240 _ ?_;refine hn239 (some ([3, 5, 6, 8, 9, 11, 12, 45, 46, 47], none)) _ ?_;refine eS fun K241 hn241 hr241 he241 => ?_;refine eS fun K242 hn242 hr242 he242 => ?_;refine eO fun K243 hk243 => ?_;refine tC 2 F11 ?_;refine tZ F11 ?_;refine hk243 _ ?_;refine hn242 (some ([3, 5, 6, 8, 9, 11, 12, 45, 46, 47, 71], none)) _ ?_;refine eCf ?_;refine hn241 (some ([3, 5, 6, 8, 9, 11, 12, 45, 46, 47], none)) _ ?_;refine eS fun K244 hn244 hr244 he244 => ?_
      refine eO fun K245 hk245 => ?_;refine tC 2 F11 ?_;refine tC 1 F11 ?_;refine tC 1 F11 ?_;refine tS 1 F11 ?_;refine Or.inl (Or.inl ⟨_, k7, ?_⟩);refine tS 1 F11 ?_;refine Or.inl (Or.inl ⟨_, k8, ?_⟩);refine tC 5 F11 ?_;refine tL F11 ?_;refine hk245 _ ?_;refine hn244 (some ([3, 5, 6, 8, 9, 11, 12, 13, 14, 45, 46, 47], none)) _ ?_;refine eS fun K246 hn246 hr246 he246 => ?_;refine eS fun K247 hn247 hr247 he247 => ?_;refine eO fun K248 hk248 => ?_;refine tC 3 F11 ?_;refine tC 1 F11 ?_;refine tC 1 F11 ?_;refine tS 1 F11 ?_;refine Or.inl (Or.inl ⟨_, k9, ?_⟩);refine tS 1 F11 ?_;refine Or.inl ⟨_, eqsh_bool _ _, ?_⟩
      refine tC 5 F11 ?_;refine tS 1 F11 ?_;refine tS 1 F11 ?_
      skip
      refine tL F11 ?_;refine hk248 _ ?_;refine hn247 (some ([3, 5, 6, 8, 9, 11, 12, 13, 14, 45, 46, 47, 96], none)) _ ?_;refine eCf ?_;refine hn246 (some ([3, 5, 6, 8, 9, 11, 12, 13, 14, 45, 46, 47], none)) _ ?_;refine eS fun K249 hn249 hr249 he249 => ?_;refine eS fun K250 hn250 hr250 he250 => ?_;refine eO fun K251 hk251 => ?_;refine tC 4 F11 ?_;refine tC 1 F11 ?_;refine tC 4 F11 ?_;refine tC 1 F11 ?_;refine tL F11 ?_;refine hk251 _ ?_;refine hn250 (some ([3, 5, 6, 9, 11, 13, 45, 46, 47, 110], none)) _ ?_;refine eCt ?_;refine eS fun K252 hn252 hr252 he252 => ?_;refine eO fun K253 hk253 => ?_;refine tC 2 F11 ?_
      refine tS 1 F11 ?_;refine tS 1 F11 ?_;refine Or.inl (Or.inl ⟨_, k10, ?_⟩);refine tC 5 F11 ?_;refine tL F11 ?_;refine hk253 _ ?_;refine hn252 (some ([3, 5, 6, 9, 11, 13, 15, 45, 46, 47], none)) _ ?_;refine eS fun K254 hn254 hr254 he254 => ?_;refine eD [] (n := 21) fun K255 hk255 => ?_;refine sq0 ?_;refine fC 2 F11 ?_;refine fC 1 F11 ?_;refine fC 3 F11 ?_;refine fC 2 F11 ?_;refine fC 3 F11 ?_;refine fC 1 F11 ?_;refine fS 1 F11 ?_;refine ⟨_, eqsh_word_refl ⟨qv, qr, qf⟩, ?_⟩;refine fC 3 F11 ?_;refine fC 1 F11 ?_;refine fS 1 F11 ?_;refine ⟨_, kh, ?_⟩;refine fS 1 F11 ?_;refine ⟨_, k12, ?_⟩;refine fZ F11 ?_
      refine hk255 _ ?_;refine sr0 ?_;refine tC 1 F11 ?_;refine tL F11 ?_;refine hn254 (some ([3, 5, 6, 11, 45, 46, 47, 140], none)) _ ?_;refine eCf ?_;refine hn249 (some ([3, 5, 6, 11, 45, 46, 47], none)) _ ?_;refine eO fun K257 hk257 => ?_;refine tC 1 F11 ?_;refine tZ F11 ?_;refine hk257 _ ?_;refine hn231 _ ?_;refine hn230 (some ([3, 5, 6, 45, 46, 47], none)) _ ?_;refine eO fun K258 hk258 => ?_;refine tC 1 F11 ?_;refine tL F11 ?_;refine hk258 _ ?_;refine hn21 (l.length - (i + 1)) (some ([3, 5, 6, 45, 46, 47], some ([0, 1], 2))) _ ?_ ?_
      all_goals try refine lp0 ?_
      · omega
      · exact ⟨i + 1, w', s', by omega, hZ', by have e9 : 2 + (i + 1) = 2 + i + 1 := rfl; rw [e9]; exact hW', by omega, by rfl⟩
end Go.Proofs.YtkbgdhomdbolnaaGreatDoor
