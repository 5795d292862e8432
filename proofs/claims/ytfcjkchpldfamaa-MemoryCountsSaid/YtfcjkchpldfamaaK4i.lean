/-
  Layer 4, plain law: an operation lowers no view, changes its own thread's view only, and adds at most one message, at its place.
-/
import Derived.Test.YtfcjkchpldfamaaK4f
namespace Go.Proofs.Ytfcjkchpldfamaa
set_option linter.unusedSimpArgs false
set_option linter.unusedVariables false
open Go.RowKit Go.Maps

structure Coh (M N : MemM) (t a : Int) : Prop where
  seen : ∀ s p, vGet (seenM M s) p ≤ vGet (seenM N s) p
  other : ∀ s, s ≠ t → seenM N s = seenM M s
  hist : ∀ p, histM N p = histM M p ∨ p = a ∧ ∃ m, histM N p = histM M p ++ [m]
theorem coh_refl (M : MemM) (t a : Int) : Coh M M t a := ⟨fun _ _ => Int.le_refl _, fun _ _ => rfl, fun _ => .inl rfl⟩
theorem coh_finds {M : MemM} {n : Nat} (h : MemOk M n) {t a : Int} (ht : ThrB M t) (ha : PlcB M a) (i : Int) (j : Bool) : Coh M (findsM M t a i j).1 t a := by
  refine ⟨fun s p => ?_, fun s hs => ?_, fun p => .inl (hist_finds M t a i j p)⟩
  · rw [seen_finds ht]
    by_cases e : s = t
    · subst e
      rw [if_pos rfl, get_read h s a i j ha]
      by_cases q : p = a
      · subst q; rw [if_pos rfl]; omega
      · rw [if_neg q]; omega
    · rw [if_neg e]; exact Int.le_refl _
  · rw [seen_finds ht, if_neg hs]
theorem coh_adds {M : MemM} {n : Nat} (h : MemOk M n) {t a : Int} (ht : ThrB M t) (ha : PlcB M a) (w : WordV) (b : Bool) : Coh M (addsM M t a w b) t a := by
  obtain ⟨_, a0, a1⟩ := plc_in h ha
  refine ⟨fun s p => ?_, fun s hs => ?_, fun p => ?_⟩
  · rw [seen_adds ht]
    by_cases e : s = t
    · subst e
      rw [if_pos rfl, vGet_with _ _ _ _ a0 a1]
      by_cases q : p = a
      · subst q; rw [if_pos rfl]; omega
      · rw [if_neg q]; exact Int.le_refl _
    · rw [if_neg e]; exact Int.le_refl _
  · rw [seen_adds ht, if_neg hs]
  · rw [hist_adds ha]
    by_cases q : p = a
    · subst q; rw [if_pos rfl]; exact .inr ⟨rfl, _, rfl⟩
    · rw [if_neg q]; exact .inl rfl
theorem coh_load {M : MemM} {n : Nat} (h : MemOk M n) (t a : Int) (q : Bool) (c : Int) : Coh M (loadM M t a q c).1 t a := by
  unfold loadM; split
  · rename_i hw
    obtain ⟨ht, ha⟩ := wrong_zero.1 hw
    exact coh_finds h ht ha _ _
  · exact coh_refl _ _ _
theorem coh_look {M : MemM} {n : Nat} (h : MemOk M n) (t a : Int) : Coh M (look1M M t a).1 t a := by
  unfold look1M; split
  · rename_i hw
    obtain ⟨ht, ha⟩ := wrong_zero.1 hw
    exact coh_finds h ht ha _ _
  · exact coh_refl _ _ _
theorem coh_store {M : MemM} {n : Nat} (h : MemOk M n) (t a : Int) (w : WordV) (b : Bool) : Coh M (mstoreM M t a w b).1 t a := by
  unfold mstoreM; split
  · rename_i hw
    obtain ⟨ht, ha⟩ := wrong_zero.1 hw
    exact coh_adds h ht ha _ _
  · exact coh_refl _ _ _
theorem coh_swap {M : MemM} {n : Nat} (h : MemOk M n) (t a : Int) (o w : WordV) : Coh M (mswapM M t a o w).1 t a := by
  have h1 := coh_look h t a
  unfold mswapM; split
  · rename_i hw
    obtain ⟨ht, ha⟩ := wrong_zero.1 hw.1
    have h2 := coh_adds (memOk_look h t a) (thr_look.2 ht) (plc_look.2 ha) w true
    refine ⟨fun s p => Int.le_trans (h1.seen s p) (h2.seen s p), fun s hs => (h2.other s hs).trans (h1.other s hs), fun p => ?_⟩
    have h3 := h2.hist p
    rwa [look_hist] at h3
  · exact h1
theorem coh_do {M : MemM} {n : Nat} (h : MemOk M n) (d : DoV) : Coh M (do4M M d).1 d.thread d.act.place := by
  unfold do4M
  split
  · exact coh_load h _ _ _ _
  · split
    · exact coh_store h _ _ _ _
    · split
      · exact coh_look h _ _
      · split
        · exact coh_swap h _ _ _ _
        · exact coh_refl _ _ _
end Go.Proofs.Ytfcjkchpldfamaa
