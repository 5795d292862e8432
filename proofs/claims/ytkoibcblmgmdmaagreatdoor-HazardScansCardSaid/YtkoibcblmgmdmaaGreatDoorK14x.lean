/-
  HazardScans, the plain law.
-/
import Derived.Test.YtkoibcblmgmdmaaGreatDoorK14q
import Derived.Test.YtkoibcblmgmdmaaGreatDoorK14y
namespace Go.Proofs.YtkoibcblmgmdmaaGreatDoor
set_option linter.unusedSimpArgs false
set_option linter.unusedVariables false
open Go.RowKit Go.Maps
theorem fits_all : ∀ (vs : List Int) (had : List (List Int)), vs.length = had.length → (∀ (i : Nat) (v : Int) (h : List Int), vs[i]? = some v → had[i]? = some h → v ∈ h) → fitsM (vs.filter (fun v => v != 0)) had = true
  | [], [], _, _ => rfl
  | [], _ :: _, h, _ => by cases h
  | _ :: _, [], h, _ => by cases h
  | v :: vs, h :: hs, hl, hm => by
    have ih := fits_all vs hs (by simpa using hl) fun i v' h' h1 h2 => hm (i + 1) v' h' (by simpa using h1) (by simpa using h2)
    have hv := hm 0 v h rfl rfl
    rw [fitsM_cons]
    refine List.any_eq_true.2 ⟨v, hv, ?_⟩
    by_cases h0 : v = 0
    · subst h0
      rw [List.filter_cons_of_neg (by simp)]
      simp [pf, ih]
    · rw [List.filter_cons_of_pos (by simpa using h0)]
      simp [pf, h0, ih]
structure ScanI (had : Nat → List Int) (begun : Bool) (w : WorldM hz) (s : Nat → HzV) (reads : List Int) : Prop where
  st : ∃ x, s 0 = .scan x ∧ x.held = reads.filter (fun v => v != 0) ∧ (reads.length : Int) = (if x.fin = true then 3 else x.nxt - 1)
  no : begun = false → reads = []
  mem : ∀ i v, reads[i]? = some v → v ∈ had i
  now : ∀ i, i < 3 → (had i).getLast? = some (Wd w.m (hazP i)).val
noncomputable def hadN (had : Nat → List Int) (begun : Bool) (w : WorldM hz) (i : Nat) : List Int :=
  if begun = true then (if (had i).getLast? = some (Wd w.m (hazP i)).val then had i else had i ++ [(Wd w.m (hazP i)).val]) else [(Wd w.m (hazP i)).val]
theorem hadN_last (had : Nat → List Int) (begun : Bool) (w : WorldM hz) (i : Nat) : (hadN had begun w i).getLast? = some (Wd w.m (hazP i)).val := by
  unfold hadN
  split
  · split
    · assumption
    · simp
  · rfl
theorem hadN_sub {had : Nat → List Int} {w : WorldM hz} {i : Nat} {v : Int} (h : v ∈ had i) : v ∈ hadN had true w i := by
  unfold hadN
  rw [if_pos rfl]
  split
  · exact h
  · exact List.mem_append_left _ h
theorem scan_read {d : Nat → DoH} {w : WorldM hz} {s s' : Nat → HzV} {p : PickV} (h : HzW d w s) (hk : (d 0).kind % 4 = 2) (hS : HzStep w s p s') (hp : p.kind = 0) :
    (s' 0 = s 0 ∧ (p.thread = 1 → ∀ i, i < 3 → Wd (stepM w p).1.m (hazP i) = Wd w.m (hazP i))) ∨
    (p.thread = 1 ∧ ∃ (j : Nat) (l : List Int), j < 3 ∧ s 0 = .scan ⟨planH, (j : Int) + 1, l, false⟩ ∧ (∀ q, Wd (stepM w p).1.m q = Wd w.m q) ∧
      ∃ x, s' 0 = .scan x ∧ x.held = l ++ (if (Wd w.m (hazP j)).val = 0 then [] else [(Wd w.m (hazP j)).val]) ∧ (if x.fin = true then (3 : Int) else x.nxt - 1) = (j : Int) + 1) := by
  cases hS with
  | idle e hs ht => subst hs; exact .inl ⟨rfl, fun _ i _ => by rw [e]⟩
  | halt k hs ht hm => omega
  | go m y hm k ht hy hl hp' did hT hst hW hs =>
    by_cases h0 : m = 0
    case neg =>
      refine .inl ⟨by rw [hs]; exact if_neg (fun e => h0 e.symm), fun e => ?_⟩
      omega
    subst h0
    refine .inr ⟨by omega, ?_⟩
    have hT0 := h.task 0 y hy
    have hf0 : finH (s 0) = false := by have := hT0.live; rw [hl] at this; simpa using this.symm
    have hs0 : s' 0 = (hzNext (s 0) (scGot (Wd w.m) y.act)).1 := by rw [hs]; rfl
    have hst0 := hT0.st
    generalize y.act = a9 at hst0 hs0 hW
    generalize s 0 = z at hst0 hf0 hs0 ⊢
    cases hst0 with
    | found k => omega
    | held k => omega
    | again k h => omega
    | pdone k h => omega
    | clr k => omega
    | cdone k h => omega
    | @scan l k j hj =>
      refine ⟨j, l, hj, rfl, fun q => by rw [hW, setH_look], ?_⟩
      have hgot : scGot (Wd w.m) ⟨5, hazP j, zWord, zWord⟩ = ⟨Wd w.m (hazP j), true⟩ := rfl
      rw [hgot] at hs0
      have hmet : metS ⟨planH, (j : Int) + 1, l, false⟩ ⟨Wd w.m (hazP j), true⟩ = l ++ (if (Wd w.m (hazP j)).val = 0 then [] else [(Wd w.m (hazP j)).val]) := by
        unfold metS
        by_cases hv : (Wd w.m (hazP j)).val = 0
        · rw [if_neg (fun h => h.2 hv), if_pos hv, List.append_nil]
        · rw [if_pos ⟨by show (0 : Int) < (j : Int) + 1; omega, hv⟩, if_neg hv]
      simp only [hzNext, scanNext] at hs0
      rw [if_neg (by decide), hmet] at hs0
      by_cases hlast : (3 : Int) < (j : Int) + 1 + 1
      · rw [if_pos hlast] at hs0
        refine ⟨_, hs0, rfl, ?_⟩
        show (if true = true then (3 : Int) else _) = _
        rw [if_pos rfl]
        omega
      · rw [if_neg hlast] at hs0
        refine ⟨_, hs0, rfl, ?_⟩
        show (if false = true then (3 : Int) else (j : Int) + 1 + 1 - 1) = _
        rw [if_neg (by decide)]
        omega
    | sdone k => cases hf0
    | look k => omega
    | swap k g t hne => omega
    | wdone k => omega
theorem filter_snoc (reads : List Int) (v : Int) : (reads ++ [v]).filter (fun v => v != 0) = reads.filter (fun v => v != 0) ++ (if v = 0 then [] else [v]) := by
  rw [List.filter_append]
  congr 1
  by_cases h : v = 0
  · subst h; rfl
  · rw [if_neg h, List.filter_cons_of_pos (by simpa using h)]; rfl
theorem scans_step {d : Nat → DoH} {had : Nat → List Int} {begun : Bool} {w : WorldM hz} {s s' : Nat → HzV} {p : PickV} {reads : List Int} (h : HzW d w s) (hk : (d 0).kind % 4 = 2) (hS : HzStep w s p s') (hp : p.kind = 0) (hI : ScanI had begun w s reads) :
    ∃ reads', ScanI (hadN had (begun || p.thread == 1) (stepM w p).1) (begun || p.thread == 1) (stepM w p).1 s' reads' := by
  have hnow : ∀ i, i < 3 → (hadN had (begun || p.thread == 1) (stepM w p).1 i).getLast? = some (Wd (stepM w p).1.m (hazP i)).val := fun i _ => hadN_last _ _ _ _
  obtain ⟨x, hx1, hx2, hx3⟩ := hI.st
  rcases scan_read h hk hS hp with ⟨e, _⟩ | ⟨ht, j, l, hj, hs0, hW, x', hx', hheld, hnx⟩
  · refine ⟨reads, ⟨x, by rw [e, hx1], hx2, hx3⟩, fun hb => hI.no (by cases begun; rfl; cases hb), fun i v hv => ?_, hnow⟩
    cases hb : (begun || p.thread == 1)
    · have : begun = false := by cases begun; rfl; cases hb
      rw [hI.no this] at hv
      cases hv
    · exact hadN_sub (hI.mem i v hv)
  · have hb : (begun || p.thread == 1) = true := by rw [ht]; simp
    rw [hx1] at hs0
    cases hs0
    have hlen : reads.length = j := by
      have : (reads.length : Int) = (if false = true then 3 else (j : Int) + 1 - 1) := hx3
      rw [if_neg (by decide)] at this
      omega
    refine ⟨reads ++ [(Wd w.m (hazP j)).val], ⟨x', hx', ?_, ?_⟩, (fun hb' => by rw [hb] at hb'; cases hb'), fun i v hv => ?_, hnow⟩
    · rw [hheld, filter_snoc]
      have : l = reads.filter (fun v => v != 0) := hx2
      rw [this]
    · rw [hnx]
      simp only [List.length_append, List.length_singleton]
      omega
    · rw [hb]
      rcases Nat.lt_or_ge i reads.length with hi | hi
      · rw [List.getElem?_append_left hi] at hv
        exact hadN_sub (hI.mem i v hv)
      · rw [List.getElem?_append_right hi] at hv
        have hi0 : i - reads.length = 0 := by
          have := (List.getElem?_eq_some_iff.1 hv).1
          simp at this
          omega
        rw [hi0] at hv
        cases hv
        have hij : i = j := by omega
        subst hij
        exact hadN_sub (List.mem_of_getLast? (hI.now i hj))
theorem scans_alone {d : Nat → DoH} {had : Nat → List Int} {begun : Bool} {w : WorldM hz} {s : Nat → HzV} {reads : List Int} (h : HzW d w s) (hk : (d 0).kind % 4 = 2) (hst : stoppedM w 0 = false) (hI : ScanI had begun w s reads) {k : Nat} (hk4 : 4 ≤ k) :
    ∃ s' x, HzW d (aloneM w (((0 : Nat) : Int) + 1) k).1 s' ∧ (aloneM w (((0 : Nat) : Int) + 1) k).2 = true ∧ s' 0 = .scan x ∧ x.fin = true ∧ fitsM x.held [had 0, had 1, had 2] = true := by
  obtain ⟨s', h1, ⟨reads', hR⟩, _, _, h5, h6⟩ := hz_alone h (m := 0) (by decide) hst (I := fun w' s' => ∃ reads', ScanI had true w' s' reads') ⟨reads, hI.st, (fun hb => by cases hb), hI.mem, hI.now⟩ (fun w1 s1 s2 q1 q2 q3 ⟨r1, q4⟩ => by
    obtain ⟨x, hx1, hx2, hx3⟩ := q4.st
    rcases scan_read q1 hk q3 rfl with ⟨e, hW⟩ | ⟨ht, j, l, hj, hs0, hW, x', hx', hheld, hnx⟩
    · have hW := hW rfl
      exact ⟨r1, ⟨x, by rw [e, hx1], hx2, hx3⟩, (fun hb => by cases hb), q4.mem, fun i hi => by rw [hW i hi]; exact q4.now i hi⟩
    · rw [hx1] at hs0
      cases hs0
      have hlen : r1.length = j := by
        have : (r1.length : Int) = (if false = true then 3 else (j : Int) + 1 - 1) := hx3
        rw [if_neg (by decide)] at this
        omega
      refine ⟨r1 ++ [(Wd w1.m (hazP j)).val], ⟨x', hx', ?_, ?_⟩, (fun hb => by cases hb), fun i v hv => ?_, fun i hi => by rw [hW]; exact q4.now i hi⟩
      · rw [hheld, filter_snoc]
        have : l = r1.filter (fun v => v != 0) := hx2
        rw [this]
      · rw [hnx]
        simp only [List.length_append, List.length_singleton]
        omega
      · rcases Nat.lt_or_ge i r1.length with hi | hi
        · rw [List.getElem?_append_left hi] at hv
          exact q4.mem i v hv
        · rw [List.getElem?_append_right hi] at hv
          have hi0 : i - r1.length = 0 := by
            have := (List.getElem?_eq_some_iff.1 hv).1
            simp at this
            omega
          rw [hi0] at hv
          cases hv
          have hij : i = j := by omega
          subst hij
          exact List.mem_of_getLast? (q4.now i hj)) hk4
  obtain ⟨x, hx1, hx2, hx3⟩ := hR.st
  have hfin : x.fin = true := by rw [hx1] at h6; exact h6
  refine ⟨s', x, h1, h5, hx1, hfin, ?_⟩
  rw [hx2]
  rw [if_pos hfin] at hx3
  have hl : reads'.length = 3 := by omega
  refine fits_all reads' _ hl fun i v hh h7 h8 => ?_
  have h9 := hR.mem i v h7
  match i, h8 with
  | 0, h8 => cases h8; exact h9
  | 1, h8 => cases h8; exact h9
  | 2, h8 => cases h8; exact h9
end Go.Proofs.YtkoibcblmgmdmaaGreatDoor
