/-
  Layer 14, plain law: a thread alone comes to its end.
-/
import Derived.Test.YtkoibcblmgmdmaaGreatDoorK14p
namespace Go.Proofs.YtkoibcblmgmdmaaGreatDoor
set_option linter.unusedSimpArgs false
set_option linter.unusedVariables false
open Go.RowKit Go.Maps
def muH (d : DoH) (f : Int → WordV) (s : HzV) (a : ActM) : Nat :=
  match s with
  | .prot s => if s.fin = true then 0 else match s.pos with
    | .begin => 4
    | .found => 3
    | .held => if weq (f (celP d)) s.word = true then 2 else 4
    | .again => if weq (f (celP d)) s.word = true then 1 else 3
  | .clr s => if 1 < s.pt then 0 else 1
  | .scan s => if s.fin = true then 0 else (4 - s.nxt).toNat
  | .put s => if s.fin = true then 0 else if a.op = 5 then 2 else if weq (f (celP d)) a.old = true then 1 else 2
theorem mu_found {d : DoH} {f l o w a} : muH d f (.prot ⟨l, o, w, false, .found⟩) a = 3 := rfl
theorem mu_held {d : DoH} {f l o w a} : muH d f (.prot ⟨l, o, w, false, .held⟩) a = if weq (f (celP d)) w = true then 2 else 4 := rfl
theorem mu_again {d : DoH} {f l o w a} : muH d f (.prot ⟨l, o, w, false, .again⟩) a = if weq (f (celP d)) w = true then 1 else 3 := rfl
theorem mu_pdone {d : DoH} {f l o w p a} : muH d f (.prot ⟨l, o, w, true, p⟩) a = 0 := rfl
theorem mu_clr {d : DoH} {f o a} : muH d f (.clr ⟨o, 1⟩) a = 1 := rfl
theorem mu_cdone {d : DoH} {f o a} : muH d f (.clr ⟨o, 2⟩) a = 0 := rfl
theorem mu_scan {d : DoH} {f l a L} (m : Nat) : muH d f (.scan ⟨L, (m : Int) + 1, l, false⟩) a = (4 - ((m : Int) + 1)).toNat := rfl
theorem mu_sdone {d : DoH} {f l a L n} : muH d f (.scan ⟨L, n, l, true⟩) a = 0 := rfl
theorem mu_put {d : DoH} {f o b c t z a} : muH d f (.put ⟨o, b, c, false, t, z⟩) a = if a.op = 5 then 2 else if weq (f (celP d)) a.old = true then 1 else 2 := rfl
theorem mu_put5 {d : DoH} {f o b c t z p g n} : muH d f (.put ⟨o, b, c, false, t, z⟩) ⟨5, p, g, n⟩ = 2 := rfl
theorem mu_put6 {d : DoH} {f o b c t z p g n} : muH d f (.put ⟨o, b, c, false, t, z⟩) ⟨6, p, g, n⟩ = if weq (f (celP d)) g = true then 1 else 2 := rfl
theorem mu_wdone {d : DoH} {f o b c t z a} : muH d f (.put ⟨o, b, c, true, t, z⟩) a = 0 := rfl
theorem muH_le {d : DoH} {i : Nat} {f : Int → WordV} {s : HzV} {a : ActM} (h : HzS d i f s a) : muH d f s a ≤ 4 := by
  cases h with
  | found k => rw [mu_found]; omega
  | held k => rw [mu_held]; split <;> omega
  | again k h => rw [mu_again]; split <;> omega
  | pdone k h => rw [mu_pdone]; omega
  | clr k => rw [mu_clr]; omega
  | cdone k h => rw [mu_cdone]; omega
  | scan k m hm => rw [mu_scan]; omega
  | sdone k => rw [mu_sdone]; omega
  | look k => rw [mu_put]; split <;> (try split) <;> omega
  | swap k g t hne => rw [mu_put]; split <;> (try split) <;> omega
  | wdone k => rw [mu_wdone]; omega
theorem hz_mu {d : DoH} {i : Nat} (hi : i < 3) {f : Int → WordV} {s : HzV} {a : ActM} (h : HzS d i f s a) (hl : finH s = false) :
    ∀ a'', (finH (hzNext s (scGot f a)).1 = false → a'' = (hzNext s (scGot f a)).2.1) → muH d (scSet f a) (hzNext s (scGot f a)).1 a'' < muH d f s a := by
  have hcel := hazP_cel hi d
  cases h with
  | found k =>
    intro a'' ha
    show muH d _ (.prot ⟨celP d, hazP i, f (celP d), false, .held⟩) a'' < _
    rw [mu_held, mu_found, setH_look, if_pos (weq_self _)]
    omega
  | @held w k =>
    intro a'' ha
    show muH d _ (.prot ⟨celP d, hazP i, w, false, .again⟩) a'' < _
    rw [mu_again, mu_held, setH_place (fun e => hcel e.symm)]
    split <;> omega
  | @again w k h =>
    have hg : scGot f ⟨5, celP d, zWord, zWord⟩ = ⟨f (celP d), true⟩ := rfl
    by_cases hc : weq (f (celP d)) w = true
    · have e : hzNext (.prot ⟨celP d, hazP i, w, false, .again⟩) ⟨f (celP d), true⟩ = (.prot ⟨celP d, hazP i, w, true, .again⟩, zAct, true) := by
        simp only [hzNext, protNext, protDo, againP]
        rw [if_neg (by decide), if_pos hc]
      rw [hg, e]
      intro a'' ha
      rw [mu_pdone, mu_again, if_pos hc]
      omega
    · have e : hzNext (.prot ⟨celP d, hazP i, w, false, .again⟩) ⟨f (celP d), true⟩ = (.prot ⟨celP d, hazP i, f (celP d), false, .held⟩, ⟨4, hazP i, zWord, ⟨(f (celP d)).val, 0, 0⟩⟩, false) := by
        simp only [hzNext, protNext, protDo, againP]
        rw [if_neg (by decide), if_neg hc]
        rfl
      rw [hg, e]
      intro a'' ha
      rw [mu_held, mu_again, if_neg hc, setH_look, if_pos (weq_self _)]
      omega
  | pdone k h => cases hl
  | clr k =>
    intro a'' ha
    show muH d _ (.clr ⟨hazP i, 2⟩) a'' < _
    rw [mu_cdone, mu_clr]
    omega
  | cdone k h => cases hl
  | @scan l k m hm =>
    have hg : scGot f ⟨5, hazP m, zWord, zWord⟩ = ⟨f (hazP m), true⟩ := rfl
    generalize hq : metS ⟨planH, (m : Int) + 1, l, false⟩ ⟨f (hazP m), true⟩ = l'
    by_cases hc : m = 2
    · subst hc
      have e : hzNext (.scan ⟨planH, ((2 : Nat) : Int) + 1, l, false⟩) ⟨f (hazP 2), true⟩ = (.scan ⟨planH, 4, l', true⟩, zAct, true) := by
        simp only [hzNext, scanNext]
        rw [if_neg (by decide), if_pos (by decide), hq]
        rfl
      rw [hg, e]
      intro a'' ha
      rw [mu_sdone, mu_scan]
      omega
    · have e : hzNext (.scan ⟨planH, (m : Int) + 1, l, false⟩) ⟨f (hazP m), true⟩ = (.scan ⟨planH, ((m + 1 : Nat) : Int) + 1, l', false⟩, ⟨5, hazP (m + 1), zWord, zWord⟩, false) := by
        simp only [hzNext, scanNext]
        rw [if_neg (by decide), if_neg (by omega), hq]
        rfl
      rw [hg, e]
      intro a'' ha
      rw [mu_scan, mu_scan]
      omega
  | sdone k => cases hl
  | look k =>
    have hg : scGot f ⟨5, celP d, zWord, zWord⟩ = ⟨f (celP d), true⟩ := rfl
    rw [hg]
    by_cases hc : d.n = (f (celP d)).val
    · have e : hzNext (.put ⟨opP d, true, false, false, 0, 0⟩) ⟨f (celP d), true⟩ = (.put ⟨opP d, true, false, true, 0, (f (celP d)).val⟩, zAct, true) := by
        simp only [hzNext, atmNext]
        rw [if_neg (by decide), if_neg (by decide), if_neg (by decide), doA_put, if_pos hc]
        rfl
      rw [e]
      intro a'' ha
      rw [mu_wdone, mu_put5]
      omega
    · have e : hzNext (.put ⟨opP d, true, false, false, 0, 0⟩) ⟨f (celP d), true⟩ = (.put ⟨opP d, true, true, false, 0, 0⟩, ⟨6, celP d, f (celP d), { f (celP d) with val := d.n }⟩, false) := by
        simp only [hzNext, atmNext]
        rw [if_neg (by decide), if_neg (by decide), if_neg (by decide), doA_put, if_neg hc]
        rfl
      rw [e]
      intro a'' ha
      rw [ha rfl]
      show muH d _ (.put ⟨opP d, true, true, false, 0, 0⟩) ⟨6, celP d, f (celP d), { f (celP d) with val := d.n }⟩ < _
      rw [mu_put6, mu_put5, setH_look, if_pos (weq_self _)]
      omega
  | swap k g t hne =>
    have hg : scGot f ⟨6, celP d, g, { g with val := d.n }⟩ = ⟨f (celP d), weq (f (celP d)) g⟩ := rfl
    rw [hg]
    by_cases hw : weq (f (celP d)) g = true
    · have e : hzNext (.put ⟨opP d, true, true, false, t, 0⟩) ⟨f (celP d), weq (f (celP d)) g⟩ = (.put ⟨opP d, true, true, true, t + 1, (f (celP d)).val⟩, zAct, true) := by
        simp only [hzNext, atmNext]
        rw [if_neg (by decide), if_neg (by decide), if_pos ⟨trivial, hw⟩]
      rw [e]
      intro a'' ha
      rw [mu_wdone, mu_put6, if_pos hw]
      omega
    · have hfs : ∀ q, scSet f ⟨6, celP d, g, { g with val := d.n }⟩ q = f q := fun q => by
        rw [setH_swap, if_neg (fun h => hw h.2)]
      by_cases hc : d.n = (f (celP d)).val
      · have e : hzNext (.put ⟨opP d, true, true, false, t, 0⟩) ⟨f (celP d), weq (f (celP d)) g⟩ = (.put ⟨opP d, true, true, true, t + 1, (f (celP d)).val⟩, zAct, true) := by
          simp only [hzNext, atmNext]
          rw [if_neg (by decide), if_neg (by decide), if_neg (fun h => hw h.2), doA_put, if_pos hc]
          rfl
        rw [e]
        intro a'' ha
        rw [mu_wdone, mu_put6, if_neg hw]
        omega
      · have e : hzNext (.put ⟨opP d, true, true, false, t, 0⟩) ⟨f (celP d), weq (f (celP d)) g⟩ = (.put ⟨opP d, true, true, false, t + 1, 0⟩, ⟨6, celP d, f (celP d), { f (celP d) with val := d.n }⟩, false) := by
          simp only [hzNext, atmNext]
          rw [if_neg (by decide), if_neg (by decide), if_neg (fun h => hw h.2), doA_put, if_neg hc]
          rfl
        rw [e]
        intro a'' ha
        rw [ha rfl]
        show muH d _ (.put ⟨opP d, true, true, false, t + 1, 0⟩) ⟨6, celP d, f (celP d), { f (celP d) with val := d.n }⟩ < _
        rw [mu_put6, mu_put6, if_neg hw, hfs, if_pos (weq_self _)]
        omega
  | wdone k => cases hl
theorem give_act {C : Coder} {y : TaskM C} {s : C.St} (hl : y.live = true) (hc : y.code = some s) (g : GotV) : (C.next s g).2.2 = false → (giveM y g).act = (C.next s g).2.1 := fun hb => by
  rw [give_liveH hl hc]
  exact (saidH _ _ _ _).2.2 hb
theorem hz_fin {d : DoH} {i : Nat} (hi : i < 3) {f : Int → WordV} {s : HzV} {a : ActM} (h : HzS d i f s a) (hl : finH s = false) : (hzNext s (scGot f a)).2.2 = finH (hzNext s (scGot f a)).1 := by
  obtain ⟨a', b, e, e2, _⟩ := hz_next hi h hl
  rw [e] at e2 ⊢
  exact e2
theorem hz_goes {d : Nat → DoH} {w : WorldM hz} {s : Nat → HzV} (h : HzW d w s) {m : Nat} (hm : m < 3) (hst : stoppedM w m = false) {I : WorldM hz → (Nat → HzV) → Prop} (hI : I w s)
    (hstep : ∀ w s s', HzW d w s → HzW d (stepM w ⟨0, (m : Int) + 1, 0⟩).1 s' → HzStep w s ⟨0, (m : Int) + 1, 0⟩ s' → I w s → I (stepM w ⟨0, (m : Int) + 1, 0⟩).1 s') : ∀ n, ∃ s' y',
    HzW d (goesM w ((m : Int) + 1) n) s' ∧ I (goesM w ((m : Int) + 1) n) s' ∧ (goesM w ((m : Int) + 1) n).stopped = w.stopped ∧ (∀ j, j ≠ m → s' j = s j) ∧ (goesM w ((m : Int) + 1) n).tasks[m]? = some y' ∧
      (y'.live = false ∨ muH (d m) (Wd (goesM w ((m : Int) + 1) n).m) (s' m) y'.act + n ≤ 4)
  | 0 => by
    obtain ⟨y, hy, hT⟩ := h.get hm
    exact ⟨s, y, h, hI, rfl, fun _ _ => rfl, hy, .inr (muH_le hT.st)⟩
  | n + 1 => by
    obtain ⟨s1, y1, h1, hI1, hs1, ho1, hy1, hmu⟩ := hz_goes h hm hst hI hstep n
    rw [goes_next]
    generalize goesM w ((m : Int) + 1) n = w1 at *
    obtain ⟨s2, h2, hS⟩ := hzW_step h1 ⟨0, (m : Int) + 1, 0⟩ (by show (0 : Int) ≠ 2; decide)
    have hI2 := hstep w1 s1 s2 h1 h2 hS hI1
    obtain ⟨y2, hy2, hT2⟩ := h2.get hm
    have hT1 := h1.task m y1 hy1
    cases hS with
    | idle e hs ht =>
      subst hs
      have htk := ht rfl
      have hst1 : stoppedM w1 m = false := by unfold stoppedM at hst ⊢; rw [hs1]; exact hst
      have hlv := takes_not (by rw [h1.len]; exact hm) hst1 htk
      have hlive : y1.live = false := by unfold liveAt at hlv; rw [hy1] at hlv; exact hlv
      rw [e] at h2 hI2 hy2 ⊢
      exact ⟨_, y1, h2, hI2, hs1, ho1, hy1, .inl hlive⟩
    | halt k hs ht hm' => cases k
    | go m' y hm' k ht hy hl hp did hTs hst2 hW hs =>
      have e : m' = m := by
        have : (m : Int) + 1 = (m' : Int) + 1 := ht
        omega
      subst e
      rw [hy1] at hy
      cases hy
      have hmu' : muH (d m') (Wd w1.m) (s1 m') y1.act + n ≤ 4 := by
        rcases hmu with h9 | h9
        · rw [hl] at h9; cases h9
        · exact h9
      have hf1 : finH (s1 m') = false := by have := hT1.live; rw [hl] at this; simpa using this.symm
      have hlt : m' < w1.tasks.length := by rw [h1.len]; exact hm'
      have hs2 : s2 m' = (hzNext (s1 m') (scGot (Wd w1.m) y1.act)).1 := by rw [hs]; exact if_pos rfl
      have hyy : y2 = giveM y1 (scGot (Wd w1.m) y1.act) := by
        rw [hTs, List.getElem?_set, if_pos rfl, if_pos hlt] at hy2
        exact (Option.some.inj hy2).symm
      refine ⟨s2, y2, h2, hI2, by rw [hst2, hs1], fun j hj => ?_, hy2, .inr ?_⟩
      · rw [hs]
        show (if j = m' then _ else s1 j) = _
        rw [if_neg hj]
        exact ho1 j hj
      · have hlt2 := hz_mu hm' hT1.st hf1 y2.act (fun hfin => by
          rw [hyy]
          exact give_act hl hT1.code _ ((hz_fin hm' hT1.st hf1).trans hfin))
        rw [hW, hs2]
        omega
theorem hz_alone {d : Nat → DoH} {w : WorldM hz} {s : Nat → HzV} (h : HzW d w s) {m : Nat} (hm : m < 3) (hst : stoppedM w m = false) {I : WorldM hz → (Nat → HzV) → Prop} (hI : I w s)
    (hstep : ∀ w s s', HzW d w s → HzW d (stepM w ⟨0, (m : Int) + 1, 0⟩).1 s' → HzStep w s ⟨0, (m : Int) + 1, 0⟩ s' → I w s → I (stepM w ⟨0, (m : Int) + 1, 0⟩).1 s') {k : Nat} (hk : 4 ≤ k) :
    ∃ s', HzW d (aloneM w ((m : Int) + 1) k).1 s' ∧ I (aloneM w ((m : Int) + 1) k).1 s' ∧ (aloneM w ((m : Int) + 1) k).1.stopped = w.stopped ∧ (∀ j, j ≠ m → s' j = s j) ∧ (aloneM w ((m : Int) + 1) k).2 = true ∧ finH (s' m) = true := by
  obtain ⟨s', y', h1, h2, h3, h4, h5, h6⟩ := hz_goes h hm hst hI hstep k
  rw [alone_eq (by rw [h.len]; exact hm) hst]
  have hT := h1.task m y' h5
  have hl : y'.live = false := by
    cases hl : y'.live
    · rfl
    · exfalso
      have hf : finH (s' m) = false := by have := hT.live; rw [hl] at this; simpa using this.symm
      have hlt := hz_mu hm hT.st hf _ (fun _ => rfl)
      rcases h6 with h6 | h6
      · rw [hl] at h6; cases h6
      · omega
  refine ⟨s', h1, h2, h3, h4, ?_, ?_⟩
  · show (!(liveAt _ m)) = true
    unfold liveAt
    rw [h5]
    show (!y'.live) = true
    rw [hl]; rfl
  · have := hT.live
    rw [hl] at this
    simpa using this.symm
theorem alone_ok {C : Coder} {w : WorldM C} {n : Nat} (h : WorldOk w n) (t most : Int) : WorldOk (aloneM w t most).1 (n + most.toNat) := by
  unfold aloneM
  split
  · exact worldOk_up h (by omega)
  · exact goesOk t most.toNat h
end Go.Proofs.YtkoibcblmgmdmaaGreatDoor
