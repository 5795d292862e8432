/-
  HazardSafe, the plain law.
-/
import Derived.Test.YtkbgdhomdbolnaaGreatDoorK14q
namespace Go.Proofs.YtkbgdhomdbolnaaGreatDoor
set_option linter.unusedSimpArgs false
set_option linter.unusedVariables false
open Go.RowKit Go.Maps

def dS (n : Int) (i : Nat) : DoH := if i = 0 then ⟨0, 0, 0⟩ else if i = 1 then ⟨3, 0, n⟩ else ⟨2, 0, 0⟩
structure SafeI (v n : Int) (w : WorldM hz) (s : Nat → HzV) : Prop where
  a : finH (s 1) = true → (Wd w.m (celN 0)).val = n
  d : ∀ x, s 2 = .scan x → 2 ≤ x.nxt → finH (s 1) = true
  e : ∀ x q, s 2 = .scan x → 2 ≤ x.nxt → s 0 = .prot q → q.fin = true → q.word.val = v → v ∈ x.held
theorem mem_met {s : ScanV} {g : GotV} {v : Int} (h : v ∈ s.held) : v ∈ metS s g := by
  unfold metS
  split
  · exact List.mem_append_left _ h
  · exact h
theorem safe_step {v n : Int} (hv : v ≠ 0) (hvn : v ≠ n) {w : WorldM hz} {s s' : Nat → HzV} {p : PickV} (h : HzW (dS n) w s) (h' : HzW (dS n) (stepM w p).1 s') (hS : HzStep w s p s') (hk : p.kind = 0) (hg : p.thread = 3 → finH (s 1) = true) (hI : SafeI v n w s) : SafeI v n (stepM w p).1 s' := by
  cases hS with
  | idle e hs ht => subst hs; rw [e]; exact hI
  | halt k hs ht hm => omega
  | go m y hm k ht hy hl hp did hT hst hW hs =>
    have hT0 := h.task m y hy
    have hf0 : finH (s m) = false := by have := hT0.live; rw [hl] at this; simpa using this.symm
    have hs0 : s' m = (hzNext (s m) (scGot (Wd w.m) y.act)).1 := by rw [hs]; exact if_pos rfl
    have hso : ∀ j, j ≠ m → s' j = s j := fun j hj => by rw [hs]; exact if_neg hj
    have hst0 := hT0.st
    have hcel : ∀ t, t < 3 → hazP t ≠ celN 0 := fun t ht => hazP_cel ht ⟨0, 0, 0⟩
    match m, hm with
    | 0, _ =>
      have e1 : s' 1 = s 1 := hso 1 (by decide)
      have e2 : s' 2 = s 2 := hso 2 (by decide)
      have hc : Wd (stepM w p).1.m (celN 0) = Wd w.m (celN 0) := by
        rw [hW]
        generalize y.act = a9 at hst0 ⊢
        generalize s 0 = z at hst0 hf0
        cases hst0 with
        | found k => exact setH_look _
        | held k => exact setH_place (fun e => hcel 0 (by decide) e.symm)
        | again k h => exact setH_look _
        | pdone k h => cases hf0
        | clr k => cases k
        | cdone k h => cases k
        | scan k m hm => cases k
        | sdone k => cases k
        | look k => cases k
        | swap k g t hne => cases k
        | wdone k => cases k
      refine ⟨fun h9 => by rw [hc]; exact hI.a (by rw [← e1]; exact h9), fun x hx hn => by rw [e1]; exact hI.d x (by rw [← e2]; exact hx) hn, fun x q hx hn hq hfin hqv => ?_⟩
      exfalso
      have hdone := hI.d x (by rw [← e2]; exact hx) hn
      have hcn := hI.a hdone
      rw [hs0] at hq
      generalize y.act = a9 at hst0 hq
      generalize s 0 = z at hst0 hf0 hq
      cases hst0 with
      | found k => cases hq; cases hfin
      | held k => cases hq; cases hfin
      | @again w9 k h =>
        have hgot : scGot (Wd w.m) ⟨5, celP (dS n 0), zWord, zWord⟩ = ⟨Wd w.m (celN 0), true⟩ := rfl
        rw [hgot] at hq
        simp only [hzNext, protNext, protDo, againP] at hq
        rw [if_neg (by decide)] at hq
        by_cases hcw : weq (Wd w.m (celN 0)) w9 = true
        · rw [if_pos hcw] at hq
          cases hq
          have e9 := weq_iff.1 hcw
          have hqv : w9.val = v := hqv
          rw [← e9, hcn] at hqv
          exact hvn hqv.symm
        · rw [if_neg hcw] at hq
          cases hq
          cases hfin
      | pdone k h => cases hf0
      | clr k => cases k
      | cdone k h => cases k
      | scan k m hm => cases k
      | sdone k => cases k
      | look k => cases k
      | swap k g t hne => cases k
      | wdone k => cases k
    | 1, _ =>
      have e0 : s' 0 = s 0 := hso 0 (by decide)
      have e2 : s' 2 = s 2 := hso 2 (by decide)
      have hno : ∀ x, s 2 = .scan x → ¬ 2 ≤ x.nxt := fun x hx hn => by
        have := hI.d x hx hn
        rw [hf0] at this; cases this
      refine ⟨fun h9 => ?_, fun x hx hn => absurd hn (hno x (by rw [← e2]; exact hx)), fun x q hx hn => absurd hn (hno x (by rw [← e2]; exact hx))⟩
      rw [hs0] at h9
      rw [hW]
      generalize y.act = a9 at hst0 h9 ⊢
      generalize s 1 = z at hst0 hf0 h9
      cases hst0 with
      | found k => cases k
      | held k => cases k
      | again k h => cases k
      | pdone k h => cases k
      | clr k => cases k
      | cdone k h => cases k
      | scan k m hm => cases k
      | sdone k => cases k
      | look k =>
        have hgot : scGot (Wd w.m) ⟨5, celP (dS n 1), zWord, zWord⟩ = ⟨Wd w.m (celN 0), true⟩ := rfl
        rw [hgot] at h9
        rw [setH_look]
        simp only [hzNext, atmNext] at h9
        rw [if_neg (by decide), if_neg (by decide), if_neg (by decide), doA_put] at h9
        by_cases hc : (dS n 1).n = (Wd w.m (celN 0)).val
        · exact hc.symm
        · rw [if_neg hc] at h9
          cases h9
      | swap k g t hne =>
        have hgot : scGot (Wd w.m) ⟨6, celP (dS n 1), g, { g with val := (dS n 1).n }⟩ = ⟨Wd w.m (celN 0), weq (Wd w.m (celN 0)) g⟩ := rfl
        rw [hgot] at h9
        have hse : scSet (Wd w.m) ⟨6, celP (dS n 1), g, { g with val := (dS n 1).n }⟩ (celN 0) = if (celN 0) = celP (dS n 1) ∧ weq (Wd w.m (celP (dS n 1))) g = true then { g with val := (dS n 1).n } else Wd w.m (celN 0) := setH_swap _
        rw [hse]
        by_cases hw : weq (Wd w.m (celN 0)) g = true
        · rw [if_pos ⟨rfl, hw⟩]; rfl
        · rw [if_neg (fun h => hw h.2)]
          simp only [hzNext, atmNext] at h9
          rw [if_neg (by decide), if_neg (by decide), if_neg (fun h => hw h.2), doA_put] at h9
          by_cases hc : (dS n 1).n = (Wd w.m (celN 0)).val
          · exact hc.symm
          · rw [if_neg hc] at h9
            cases h9
      | wdone k => cases hf0
    | 2, _ =>
      have e0 : s' 0 = s 0 := hso 0 (by decide)
      have e1 : s' 1 = s 1 := hso 1 (by decide)
      have hd1 : finH (s 1) = true := hg (by rw [ht]; rfl)
      obtain ⟨y0, hy0, hP⟩ := h.get (i := 0) (by decide)
      have hpst := hP.st
      generalize y.act = a9 at hst0 hs0 hW
      generalize hz2 : s 2 = z at hst0 hf0 hs0
      cases hst0 with
      | found k => cases k
      | held k => cases k
      | again k h => cases k
      | pdone k h => cases k
      | clr k => cases k
      | cdone k h => cases k
      | @scan l k j hj =>
        have hW2 : ∀ q, Wd (stepM w p).1.m q = Wd w.m q := fun q => by rw [hW, setH_look]
        refine ⟨fun _ => by rw [hW2]; exact hI.a hd1, fun _ _ _ => by rw [e1]; exact hd1, fun x q hx hn hq hfin hqv => ?_⟩
        have hgot : scGot (Wd w.m) ⟨5, hazP j, zWord, zWord⟩ = ⟨Wd w.m (hazP j), true⟩ := rfl
        rw [hgot] at hs0
        rw [hs0] at hx
        have hheld : x.held = metS ⟨planH, (j : Int) + 1, l, false⟩ ⟨Wd w.m (hazP j), true⟩ := by
          simp only [hzNext, scanNext] at hx
          rw [if_neg (by decide)] at hx
          split at hx
          · cases hx; rfl
          · cases hx; rfl
        rw [hheld]
        by_cases hj0 : j = 0
        · subst hj0
          rw [e0] at hq
          rw [hq] at hpst
          have hh : (Wd w.m (hazP 0)).val = v := by
            generalize y0.act = b9 at hpst
            cases hpst with
            | found k => cases hfin
            | held k => cases hfin
            | again k h => cases hfin
            | pdone k h => rw [h]; exact hqv
          unfold metS
          rw [if_pos ⟨by show (0 : Int) < ((0 : Nat) : Int) + 1; decide, by show (Wd w.m (hazP 0)).val ≠ 0; rw [hh]; exact hv⟩]
          show v ∈ l ++ [(Wd w.m (hazP 0)).val]
          rw [hh]
          simp
        · refine mem_met ?_
          have := hI.e _ q hz2 (by show 2 ≤ (j : Int) + 1; omega) (by rw [← e0]; exact hq) hfin hqv
          exact this
      | sdone k => cases hf0
      | look k => cases k
      | swap k g t hne => cases k
      | wdone k => cases k
end Go.Proofs.YtkbgdhomdbolnaaGreatDoor
