/-
  Layer 14, plain law: threads that run alone, and what their codes are at the end.
-/
import Derived.Test.YtkoibcblmgmdmaaGreatDoorK14q
namespace Go.Proofs.YtkoibcblmgmdmaaGreatDoor
set_option linter.unusedSimpArgs false
set_option linter.unusedVariables false
open Go.RowKit Go.Maps

theorem hz_done {d : Nat → DoH} {w : WorldM hz} {s : Nat → HzV} (h : HzW d w s) (hf : ∀ u, u < 3 → finH (s u) = true) : doneW w = true := by
  unfold doneW
  refine List.all_eq_true.2 fun i hi => ?_
  rw [h.len] at hi
  have hi := List.mem_range.1 hi
  obtain ⟨y, hy, hT⟩ := h.get hi
  have : liveAt w i = false := by
    unfold liveAt
    rw [hy]
    show y.live = false
    rw [hT.live, hf i hi]; rfl
  rw [this]; rfl
theorem hz_alone1 {d : Nat → DoH} {w : WorldM hz} {s : Nat → HzV} (h : HzW d w s) {m : Nat} (hm : m < 3) (hst : w.stopped = List.replicate 3 false) {k : Nat} (hk : 4 ≤ k) :
    ∃ s', HzW d (aloneM w ((m : Int) + 1) k).1 s' ∧ (aloneM w ((m : Int) + 1) k).1.stopped = List.replicate 3 false ∧ (∀ j, j ≠ m → s' j = s j) ∧ (aloneM w ((m : Int) + 1) k).2 = true ∧ finH (s' m) = true := by
  have hs : stoppedM w m = false := by
    unfold stoppedM
    rw [hst]
    match m, hm with
    | 0, _ => rfl
    | 1, _ => rfl
    | 2, _ => rfl
  obtain ⟨s', h1, _, h3, h4, h5, h6⟩ := hz_alone h hm hs (I := fun _ _ => True) trivial (fun _ _ _ _ _ _ _ => trivial) hk
  exact ⟨s', h1, by rw [h3, hst], h4, h5, h6⟩
theorem step_stopped {d : Nat → DoH} {w : WorldM hz} {s s' : Nat → HzV} {p : PickV} (hk : p.kind = 0) (h : HzStep w s p s') (hst : w.stopped = List.replicate 3 false) : (stepM w p).1.stopped = List.replicate 3 false := by
  cases h with
  | idle e hs ht => rw [e]; exact hst
  | halt k hs ht hm => omega
  | go m y hm k ht hy hl hp did hT hst2 hW hs => rw [hst2]; exact hst
/-- What a code that has ended is. -/
theorem end_prot {d : Nat → DoH} {w : WorldM hz} {s : Nat → HzV} (h : HzW d w s) {i : Nat} (hi : i < 3) (hk : (d i).kind % 4 = 0) (hf : finH (s i) = true) : ∃ q, s i = .prot q ∧ q.fin = true := by
  obtain ⟨y, hy, hT⟩ := h.get hi
  have h9 := hT.st
  generalize y.act = a9 at h9
  generalize s i = z at h9 hf ⊢
  cases h9 with
  | found k => cases hf
  | held k => cases hf
  | again k h => cases hf
  | pdone k h => exact ⟨_, rfl, rfl⟩
  | clr k => omega
  | cdone k h => omega
  | scan k m hm => omega
  | sdone k => omega
  | look k => omega
  | swap k g t hne => omega
  | wdone k => omega
theorem end_clr {d : Nat → DoH} {w : WorldM hz} {s : Nat → HzV} (h : HzW d w s) {i : Nat} (hi : i < 3) (hk : (d i).kind % 4 = 1) (hf : finH (s i) = true) : ∃ q, s i = .clr q := by
  obtain ⟨y, hy, hT⟩ := h.get hi
  have h9 := hT.st
  generalize y.act = a9 at h9
  generalize s i = z at h9 hf ⊢
  cases h9 with
  | found k => omega
  | held k => omega
  | again k h => omega
  | pdone k h => omega
  | clr k => exact ⟨_, rfl⟩
  | cdone k h => exact ⟨_, rfl⟩
  | scan k m hm => omega
  | sdone k => omega
  | look k => omega
  | swap k g t hne => omega
  | wdone k => omega
theorem end_scan {d : Nat → DoH} {w : WorldM hz} {s : Nat → HzV} (h : HzW d w s) {i : Nat} (hi : i < 3) (hk : (d i).kind % 4 = 2) (hf : finH (s i) = true) : ∃ x, s i = .scan x ∧ x.fin = true := by
  obtain ⟨y, hy, hT⟩ := h.get hi
  have h9 := hT.st
  generalize y.act = a9 at h9
  generalize s i = z at h9 hf ⊢
  cases h9 with
  | found k => omega
  | held k => omega
  | again k h => omega
  | pdone k h => omega
  | clr k => omega
  | cdone k h => omega
  | scan k m hm => cases hf
  | sdone k => exact ⟨_, rfl, rfl⟩
  | look k => omega
  | swap k g t hne => omega
  | wdone k => omega
end Go.Proofs.YtkoibcblmgmdmaaGreatDoor
