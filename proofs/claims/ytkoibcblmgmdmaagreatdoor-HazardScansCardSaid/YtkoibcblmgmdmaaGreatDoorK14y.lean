/-
  Layer 14 by shadows: fits.
-/
import Derived.Test.YtkoibcblmgmdmaaGreatDoorK14a
import Derived.Test.YtkoibcblmgmdmaaGreatDoorSc14l
import Derived.Test.YtkoibcblmgmdmaaGreatDoorMC
namespace Go.Proofs.YtkoibcblmgmdmaaGreatDoor
set_option linter.unusedSimpArgs false
set_option linter.unusedVariables false
open Go.RowKit Go.Maps
def fitsM : List Int → List (List Int) → Bool
  | held, [] => decide (held = [])
  | held, h :: hs => h.any fun v => (v == 0 && fitsM held hs) || (v != 0 && (held.head? == some v && fitsM held.tail hs))
def pf (held : List Int) (hs : List (List Int)) (v : Int) : Bool := (v == 0 && fitsM held hs) || (v != 0 && (held.head? == some v && fitsM held.tail hs))
theorem fitsM_cons (held : List Int) (h : List Int) (hs : List (List Int)) : fitsM held (h :: hs) = h.any (pf held hs) := rfl
abbrev eHd (p : Nat × List Int) : List Sh := [.sl 1 p.1 (p.2.map eH1)]
def FtInv (held : List Int) (had : List (Nat × List Int)) (g g2 gh : Nat) (h : List Int) (m : Nat) (S : St) : Prop :=
  ∃ j : Nat, j ≤ h.length ∧ m = h.length - j ∧ ((h.take j).any (pf held (had.map Prod.snd))) = false ∧
    S = ⟨[(0, .sl 1 g (held.map eH1)), (1, .sl 1 g2 ((.sl 1 gh (h.map eH1) :: ([] : List Sh)) :: had.map eHd)), (15, .sl 1 gh (h.map eH1)), (16, sI h.length), (17, sI j)], [], 0⟩
set_option maxRecDepth 20000 in
set_option maxHeartbeats 8000000 in
theorem ok_l14fits (had : List (Nat × List Int)) : (∀ p ∈ had, p.2.length ≤ 1000) → ∀ (held : List Int) (g g2 : Nat), Ok 22 [.sl 1 g (held.map eH1), .sl 1 g2 (had.map eHd)] (sB (fitsM held (had.map Prod.snd))) := by
  induction had with
  | nil =>
    intro _ held g g2
    refine ok_of_tr Tryz.func22 tr_l14fits rfl ?_
    have e : fitsM held (([] : List (Nat × List Int)).map Prod.snd) = ((held.length : Int) == 0) := by
      show decide (held = []) = _
      cases held with
      | nil => rfl
      | cons x t =>
        rw [decide_eq_false (by simp)]
        symm
        simp only [List.length_cons, beq_eq_false_iff_ne, ne_eq]
        omega
    rw [e]
    have z0 : (((0 : Nat) : Int) == 0) = true := by decide
    unfold evFn sc_l14fits rv_l14fits
    have F1 := @z0
    refine eS fun K1 hn1 hr1 he1 => ?_;refine eO fun K2 hk2 => ?_;refine tL F1 ?_;refine hk2 _ ?_;refine hn1 (some ([0,1], none)) _ ?_;refine eS fun K3 hn3 hr3 he3 => ?_;refine eS fun K4 hn4 hr4 he4 => ?_;refine eO fun K5 hk5 => ?_;refine tZ F1 ?_;refine hk5 _ ?_;refine hn4 (some ([0,1,9], none)) _ ?_;refine eCt ?_;refine eS fun K6 hn6 hr6 he6 => ?_;refine eO fun K7 hk7 => ?_;refine tC 3 F1 ?_;refine tL F1 ?_;refine hk7 _ ?_;refine hn6 (some ([4], none)) _ ?_;refine hr3 _ ?_
    exact sf1 F1
  | cons p had ih =>
    obtain ⟨gh, h⟩ := p
    intro hln held g g2
    have ih := ih fun q hq => hln q (List.mem_cons_of_mem _ hq)
    refine ok_of_tr Tryz.func22 tr_l14fits rfl ?_
    have z0 : (((had.length + 1 : Nat) : Int) == 0) = false := by simp only [beq_eq_false_iff_ne, ne_eq]; omega
    have z1 : (0 : Int) < ((had.length + 1 : Nat) : Int) := by omega
    have z2 : (1 : Int) ≤ ((had.length + 1 : Nat) : Int) := by omega
    have z3 : (0 : Int) ≤ ((had.length + 1 : Nat) : Int) := by omega
    rw [show fitsM held (List.map Prod.snd ((gh, h) :: had)) = h.any (pf held (had.map Prod.snd)) from fitsM_cons held h _]
    have hlen := hln (gh, h) (List.mem_cons_self ..)
    simp only at hlen
    change evFn sc_l14fits rv_l14fits [.sl 1 g (held.map eH1), .sl 1 g2 ([.sl 1 gh (h.map eH1)] :: had.map eHd)] _
    generalize hR : h.any (pf held (had.map Prod.snd)) = R
    have zl : ∀ (a : List Sh) (l : List (List Sh)), (a :: l).length = l.length + 1 := fun _ _ => rfl
    have zm : ∀ (a : Int) (l : List Int), (a :: l).map eH1 = eH1 a :: l.map eH1 := fun _ _ => rfl
    unfold evFn sc_l14fits rv_l14fits
    have F1 := And.intro @z0 (And.intro @z1 (And.intro @z2 (And.intro @z3 (And.intro @zl @zm))))
    refine eS fun K1 hn1 hr1 he1 => ?_;refine eO fun K2 hk2 => ?_;refine tL F1 ?_;refine hk2 _ ?_;refine hn1 (some ([0,1], none)) _ ?_;refine eS fun K3 hn3 hr3 he3 => ?_;refine eS fun K4 hn4 hr4 he4 => ?_;refine eO fun K5 hk5 => ?_;refine tZ F1 ?_;refine hk5 _ ?_;refine hn4 (some ([0,1,9], none)) _ ?_;refine eCf ?_;refine hn3 (some ([0,1], none)) _ ?_;refine eS fun K6 hn6 hr6 he6 => ?_;refine eS fun K7 hn7 _ _ => ?_;refine eO fun _ hk8 => ?_;refine tC 2 F1 ?_;refine tC 1 F1 ?_;refine tL F1 ?_;refine hk8 _ ?_;refine hn7 (some ([0,1,15,16,17], none)) _ ?_;refine eB fun _ _ hx9 hr9 _ => ?_;refine eW (FtInv held had g g2 gh h) (h.length) (some ([0,1,15,16,17], none)) ([]) ?_ ?_
    · try refine lp0 ?_
      exact ⟨0, by omega, by omega, rfl, by rfl⟩
    · intro k S1 hI
      obtain ⟨j, hj, rfl, hno, rfl⟩ := hI
      have hcase : j = h.length ∨ (∃ z, h[j]? = some z ∧ z = 0 ∧ fitsM held (had.map Prod.snd) = true) ∨ (∃ z, h[j]? = some z ∧ z = 0 ∧ fitsM held (had.map Prod.snd) = false) ∨ (∃ z, h[j]? = some z ∧ z ≠ 0 ∧ held = []) ∨
          (∃ z x t, h[j]? = some z ∧ z ≠ 0 ∧ held = x :: t ∧ x ≠ z) ∨ (∃ z t, h[j]? = some z ∧ z ≠ 0 ∧ held = z :: t ∧ fitsM t (had.map Prod.snd) = true) ∨ (∃ z t, h[j]? = some z ∧ z ≠ 0 ∧ held = z :: t ∧ fitsM t (had.map Prod.snd) = false) := by
        rcases Nat.lt_or_ge j h.length with hl | hl
        · have hz := List.getElem?_eq_getElem hl
          by_cases h0 : h[j] = 0
          · cases hf : fitsM held (had.map Prod.snd)
            · exact .inr (.inr (.inl ⟨_, hz, h0, rfl⟩))
            · exact .inr (.inl ⟨_, hz, h0, rfl⟩)
          · cases held with
            | nil => exact .inr (.inr (.inr (.inl ⟨_, hz, h0, rfl⟩)))
            | cons x t =>
              by_cases hx9 : x = h[j]
              · subst hx9
                cases hf : fitsM t (had.map Prod.snd)
                · exact .inr (.inr (.inr (.inr (.inr (.inr ⟨_, t, hz, h0, rfl, hf⟩)))))
                · exact .inr (.inr (.inr (.inr (.inr (.inl ⟨_, t, hz, h0, rfl, hf⟩)))))
              · exact .inr (.inr (.inr (.inr (.inl ⟨_, x, t, hz, h0, rfl, hx9⟩))))
        · exact .inl (by omega)
      intro _ hn10 hr10 he10
      rcases hcase with hcc | ⟨z, hz, rfl, hf⟩ | ⟨z, hz, rfl, hf⟩ | ⟨z, hz, h0, rfl⟩ | ⟨z, x, t, hz, h0, rfl, hne⟩ | ⟨z, t, hz, h0, rfl, hf⟩ | ⟨z, t, hz, h0, rfl, hf⟩
      · skip
        have x2 : ¬ (j : Int) < (h.length : Int) := by omega
        rw [hcc, List.take_length, hR] at hno
        have F2 := And.intro F1 (And.intro @x2 @hno)
        refine eS fun _ hn11 _ _ => ?_;refine eO fun _ hk12 => ?_;refine tZ F2 ?_;refine hk12 _ ?_;refine hn11 (some ([0,1,15,16,17,18], none)) _ ?_;refine eS fun _ _ _ he13 => ?_;refine eCf ?_;refine he13 0 _ ?_;refine he10 0 _ ?_;refine hx9 _ ?_;refine hn6 (some ([], none)) _ ?_;refine eS fun _ hn14 _ _ => ?_;refine eO fun _ hk15 => ?_;refine tL F2 ?_;refine hk15 _ ?_;refine hn14 (some ([4], none)) _ ?_
        exact sf1 F2
      · skip
        have hjl := (List.getElem?_eq_some_iff.1 hz).1
        have x2 : (j : Int) < (h.length : Int) := by omega
        have x3 : IntKind.i64.wrap ((j : Int) + 1) = ((j + 1 : Nat) : Int) := by rw [IntKind.wrap_i64]; omega
        have kf := ih held
        rw [hf] at kf
        have hyes : h.any (pf held (had.map Prod.snd)) = true := List.any_eq_true.2 ⟨_, List.mem_of_getElem? hz, by simp [pf, hf]⟩
        rw [hR] at hyes
        have F3 := And.intro F1 (And.intro @x2 (And.intro @x3 (And.intro @hz @hyes)))
        refine eS fun _ hn16 _ _ => ?_;refine eO fun _ hk17 => ?_;refine tZ F3 ?_;refine hk17 _ ?_;refine hn16 (some ([0,1,15,16,17,18], none)) _ ?_;refine eS fun _ hn18 _ _ => ?_;refine eCt ?_;refine hn18 (some ([0,1,15,16,17], none)) _ ?_;refine eS fun _ _ hr19 _ => ?_;refine eB fun _ _ _ hr20 _ => ?_;refine eS fun _ hn21 _ _ => ?_;refine eO fun _ hk22 => ?_;refine tC 1 F3 ?_;refine tC 1 F3 ?_;refine tL F3 ?_;refine hk22 _ ?_;refine hn21 (some ([0,1,6,15,16,17], none)) _ ?_;refine eS fun _ _ hr23 _ => ?_;refine eS fun _ hn24 _ _ => ?_;refine eO fun _ hk25 => ?_;refine tC 2 F3 ?_;refine tC 4 F3 ?_;refine tS 1 F3 ?_;refine Or.inl (Or.inl ⟨_, kf _ _, ?_⟩);refine tL F3 ?_;refine hk25 _ ?_;refine hn24 (some ([0,1,6,15,16,17,28], none)) _ ?_;refine eCt ?_;refine eS fun _ hn26 _ _ => ?_;refine eO fun _ hk27 => ?_;refine tL F3 ?_;refine hk27 _ ?_;refine hn26 (some ([4], none)) _ ?_;refine hr23 _ ?_;refine hr20 _ ?_;refine hr19 _ ?_;refine hr10 _ ?_;refine hr9 _ ?_;refine hr6 _ ?_
        exact sf1 F3
      · skip
        have hjl := (List.getElem?_eq_some_iff.1 hz).1
        have x2 : (j : Int) < (h.length : Int) := by omega
        have x3 : IntKind.i64.wrap ((j : Int) + 1) = ((j + 1 : Nat) : Int) := by rw [IntKind.wrap_i64]; omega
        have kf := ih held
        rw [hf] at kf
        have hno2 : (h.take (j + 1)).any (pf held (had.map Prod.snd)) = false := by
          rw [List.take_add_one, hz, List.any_append, hno]
          simp [pf, hf]
        have F4 := And.intro F1 (And.intro @x2 (And.intro @x3 @hz))
        refine eS fun _ hn28 _ _ => ?_;refine eO fun _ hk29 => ?_;refine tZ F4 ?_;refine hk29 _ ?_;refine hn28 (some ([0,1,15,16,17,18], none)) _ ?_;refine eS fun _ hn30 _ _ => ?_;refine eCt ?_;refine hn30 (some ([0,1,15,16,17], none)) _ ?_;refine eS fun _ hn31 _ _ => ?_;refine eB fun _ hn32 _ _ _ => ?_;refine eS fun _ hn33 _ _ => ?_;refine eO fun _ hk34 => ?_;refine tC 1 F4 ?_;refine tC 1 F4 ?_;refine tL F4 ?_;refine hk34 _ ?_;refine hn33 (some ([0,1,6,15,16,17], none)) _ ?_;refine eS fun _ hn35 _ _ => ?_;refine eS fun _ hn36 _ _ => ?_;refine eO fun _ hk37 => ?_;refine tC 2 F4 ?_;refine tC 4 F4 ?_;refine tS 1 F4 ?_;refine Or.inl (Or.inl ⟨_, kf _ _, ?_⟩);refine tL F4 ?_;refine hk37 _ ?_;refine hn36 (some ([0,1,6,15,16,17,28], none)) _ ?_;refine eCf ?_;refine hn35 (some ([0,1,6,15,16,17], none)) _ ?_;refine eS fun _ hn38 _ _ => ?_;refine eD [] (n := 19) fun _ hk39 => ?_;refine sq0 ?_;refine fC 2 F4 ?_;refine fC 4 F4 ?_;refine fC 4 F4 ?_;refine fC 1 F4 ?_;refine fC 2 F4 ?_;refine fC 4 F4 ?_;refine fZ F4 ?_;refine hk39 _ ?_;refine sr0 ?_;refine tS 1 F4 ?_
        skip
        refine tL F4 ?_;refine hn38 (some ([0,1,15,16,17,49], none)) _ ?_;refine eCf ?_;refine hn32 _ ?_;refine hn31 (some ([0,1,15,16,17], none)) _ ?_;refine eO fun _ hk41 => ?_;refine tC 1 F4 ?_;refine tL F4 ?_;refine hk41 _ ?_;refine hn10 (h.length - (j + 1)) (some ([0,1,15,16,17], none)) _ ?_ ?_
        all_goals try refine lp0 ?_
        · omega
        · exact ⟨j + 1, by omega, by omega, hno2, by rfl⟩
      · skip
        have hjl := (List.getElem?_eq_some_iff.1 hz).1
        have x2 : (j : Int) < (h.length : Int) := by omega
        have x3 : IntKind.i64.wrap ((j : Int) + 1) = ((j + 1 : Nat) : Int) := by rw [IntKind.wrap_i64]; omega
        have x4 : (z == 0) = false := by simpa using h0
        have x5 : (z != 0) = true := by simpa using h0
        have hno2 : (h.take (j + 1)).any (pf [] (had.map Prod.snd)) = false := by
          rw [List.take_add_one, hz, List.any_append, hno]
          simp [pf, h0]
        have x6 : ¬ (0 : Int) < ((0 : Nat) : Int) := by decide
        have F5 := And.intro F1 (And.intro @x2 (And.intro @x3 (And.intro @hz (And.intro @x4 (And.intro @x5 @x6)))))
        refine eS fun _ hn42 _ _ => ?_;refine eO fun _ hk43 => ?_;refine tZ F5 ?_;refine hk43 _ ?_;refine hn42 (some ([0,1,15,16,17,18], none)) _ ?_;refine eS fun _ hn44 _ _ => ?_;refine eCt ?_;refine hn44 (some ([0,1,15,16,17], none)) _ ?_;refine eS fun _ hn45 _ _ => ?_;refine eB fun _ hn46 _ _ _ => ?_;refine eS fun _ hn47 _ _ => ?_;refine eO fun _ hk48 => ?_;refine tC 1 F5 ?_;refine tC 1 F5 ?_;refine tL F5 ?_;refine hk48 _ ?_;refine hn47 (some ([0,1,6,15,16,17], none)) _ ?_;refine eS fun _ hn49 _ _ => ?_;refine eS fun _ hn50 _ _ => ?_;refine eO fun _ hk51 => ?_;refine tC 2 F5 ?_;refine tC 4 F5 ?_;refine tS 1 F5 ?_
        skip
        refine tL F5 ?_;refine hk51 _ ?_;refine hn50 (some ([0,1,6,15,16,17,28], none)) _ ?_;refine eCf ?_;refine hn49 (some ([0,1,6,15,16,17], none)) _ ?_;refine eS fun _ hn52 _ _ => ?_;refine eD [] (n := 19) fun _ hk53 => ?_;refine sq0 ?_;refine fC 2 F5 ?_;refine fC 4 F5 ?_;refine fC 4 F5 ?_;refine fC 1 F5 ?_;refine fC 2 F5 ?_;refine fC 4 F5 ?_;refine fZ F5 ?_;refine hk53 _ ?_;refine sr0 ?_;refine tS 1 F5 ?_
        skip
        refine tL F5 ?_;refine hn52 (some ([0,1,15,16,17,49], none)) _ ?_;refine eCf ?_;refine hn46 _ ?_;refine hn45 (some ([0,1,15,16,17], none)) _ ?_;refine eO fun _ hk55 => ?_;refine tC 1 F5 ?_;refine tL F5 ?_;refine hk55 _ ?_;refine hn10 (h.length - (j + 1)) (some ([0,1,15,16,17], none)) _ ?_ ?_
        all_goals try refine lp0 ?_
        · omega
        · exact ⟨j + 1, by omega, by omega, hno2, by rfl⟩
      · skip
        have hjl := (List.getElem?_eq_some_iff.1 hz).1
        have x2 : (j : Int) < (h.length : Int) := by omega
        have x3 : IntKind.i64.wrap ((j : Int) + 1) = ((j + 1 : Nat) : Int) := by rw [IntKind.wrap_i64]; omega
        have x4 : (z == 0) = false := by simpa using h0
        have x5 : (z != 0) = true := by simpa using h0
        have x6 : (0 : Int) < ((t.length + 1 : Nat) : Int) := by omega
        have x7 : (1 : Int) ≤ ((t.length + 1 : Nat) : Int) := by omega
        have x8 : (x == z) = false := by simpa using hne
        have hno2 : (h.take (j + 1)).any (pf (x :: t) (had.map Prod.snd)) = false := by
          rw [List.take_add_one, hz, List.any_append, hno]
          simp [pf, h0, hne]
        have F6 := And.intro F1 (And.intro @x2 (And.intro @x3 (And.intro @hz (And.intro @x4 (And.intro @x5 (And.intro @x6 (And.intro @x7 @x8)))))))
        refine eS fun _ hn56 _ _ => ?_;refine eO fun _ hk57 => ?_;refine tZ F6 ?_;refine hk57 _ ?_;refine hn56 (some ([0,1,15,16,17,18], none)) _ ?_;refine eS fun _ hn58 _ _ => ?_;refine eCt ?_;refine hn58 (some ([0,1,15,16,17], none)) _ ?_;refine eS fun _ hn59 _ _ => ?_;refine eB fun _ hn60 _ _ _ => ?_;refine eS fun _ hn61 _ _ => ?_;refine eO fun _ hk62 => ?_;refine tC 1 F6 ?_;refine tC 1 F6 ?_;refine tL F6 ?_;refine hk62 _ ?_;refine hn61 (some ([0,1,6,15,16,17], none)) _ ?_;refine eS fun _ hn63 _ _ => ?_;refine eS fun _ hn64 _ _ => ?_;refine eO fun _ hk65 => ?_;refine tC 2 F6 ?_;refine tC 4 F6 ?_;refine tS 1 F6 ?_
        skip
        refine tL F6 ?_;refine hk65 _ ?_;refine hn64 (some ([0,1,6,15,16,17,28], none)) _ ?_;refine eCf ?_;refine hn63 (some ([0,1,6,15,16,17], none)) _ ?_;refine eS fun _ hn66 _ _ => ?_;refine eD [] (n := 19) fun _ hk67 => ?_;refine sq0 ?_;refine fC 2 F6 ?_;refine fC 4 F6 ?_;refine fC 4 F6 ?_;refine fC 1 F6 ?_;refine fC 2 F6 ?_;refine fC 4 F6 ?_;refine fZ F6 ?_;refine hk67 _ ?_;refine sr0 ?_;refine tS 1 F6 ?_
        skip
        refine tL F6 ?_;refine hn66 (some ([0,1,15,16,17,49], none)) _ ?_;refine eCf ?_;refine hn60 _ ?_;refine hn59 (some ([0,1,15,16,17], none)) _ ?_;refine eO fun _ hk69 => ?_;refine tC 1 F6 ?_;refine tL F6 ?_;refine hk69 _ ?_;refine hn10 (h.length - (j + 1)) (some ([0,1,15,16,17], none)) _ ?_ ?_
        all_goals try refine lp0 ?_
        · omega
        · exact ⟨j + 1, by omega, by omega, hno2, by rfl⟩
      · skip
        have hjl := (List.getElem?_eq_some_iff.1 hz).1
        have x2 : (j : Int) < (h.length : Int) := by omega
        have x3 : IntKind.i64.wrap ((j : Int) + 1) = ((j + 1 : Nat) : Int) := by rw [IntKind.wrap_i64]; omega
        have x4 : (z == 0) = false := by simpa using h0
        have x5 : (z != 0) = true := by simpa using h0
        have x6 : (0 : Int) < ((t.length + 1 : Nat) : Int) := by omega
        have x7 : (1 : Int) ≤ ((t.length + 1 : Nat) : Int) := by omega
        have kf := ih t
        rw [hf] at kf
        have hyes : h.any (pf (z :: t) (had.map Prod.snd)) = true := List.any_eq_true.2 ⟨_, List.mem_of_getElem? hz, by simp [pf, hf, h0]⟩
        rw [hR] at hyes
        have F7 := And.intro F1 (And.intro @x2 (And.intro @x3 (And.intro @hz (And.intro @x4 (And.intro @x5 (And.intro @x6 (And.intro @x7 @hyes)))))))
        refine eS fun _ hn70 _ _ => ?_;refine eO fun _ hk71 => ?_;refine tZ F7 ?_;refine hk71 _ ?_;refine hn70 (some ([0,1,15,16,17,18], none)) _ ?_;refine eS fun _ hn72 _ _ => ?_;refine eCt ?_;refine hn72 (some ([0,1,15,16,17], none)) _ ?_;refine eS fun _ _ hr73 _ => ?_;refine eB fun _ _ _ hr74 _ => ?_;refine eS fun _ hn75 _ _ => ?_;refine eO fun _ hk76 => ?_;refine tC 1 F7 ?_;refine tC 1 F7 ?_;refine tL F7 ?_;refine hk76 _ ?_;refine hn75 (some ([0,1,6,15,16,17], none)) _ ?_;refine eS fun _ hn77 _ _ => ?_;refine eS fun _ hn78 _ _ => ?_;refine eO fun _ hk79 => ?_;refine tC 2 F7 ?_;refine tC 4 F7 ?_;refine tS 1 F7 ?_
        skip
        refine tL F7 ?_;refine hk79 _ ?_;refine hn78 (some ([0,1,6,15,16,17,28], none)) _ ?_;refine eCf ?_;refine hn77 (some ([0,1,6,15,16,17], none)) _ ?_;refine eS fun _ hn80 _ _ => ?_;refine eD [] (n := 19) fun _ hk81 => ?_;refine sq0 ?_;refine fC 2 F7 ?_;refine fC 4 F7 ?_;refine fC 4 F7 ?_;refine fC 1 F7 ?_;refine fC 2 F7 ?_;refine fC 4 F7 ?_;refine fZ F7 ?_;refine hk81 _ ?_;refine sr0 ?_;refine tS 1 F7 ?_;refine Or.inl (Or.inl ⟨_, kf _ _, ?_⟩);refine tL F7 ?_;refine hn80 (some ([0,1,15,16,17,49], none)) _ ?_;refine eCt ?_;refine eS fun _ hn83 _ _ => ?_;refine eO fun _ hk84 => ?_;refine tL F7 ?_;refine hk84 _ ?_;refine hn83 (some ([4], none)) _ ?_;refine hr74 _ ?_;refine hr73 _ ?_;refine hr10 _ ?_;refine hr9 _ ?_;refine hr6 _ ?_
        exact sf1 F7
      · skip
        have hjl := (List.getElem?_eq_some_iff.1 hz).1
        have x2 : (j : Int) < (h.length : Int) := by omega
        have x3 : IntKind.i64.wrap ((j : Int) + 1) = ((j + 1 : Nat) : Int) := by rw [IntKind.wrap_i64]; omega
        have x4 : (z == 0) = false := by simpa using h0
        have x5 : (z != 0) = true := by simpa using h0
        have x6 : (0 : Int) < ((t.length + 1 : Nat) : Int) := by omega
        have x7 : (1 : Int) ≤ ((t.length + 1 : Nat) : Int) := by omega
        have kf := ih t
        rw [hf] at kf
        have hno2 : (h.take (j + 1)).any (pf (z :: t) (had.map Prod.snd)) = false := by
          rw [List.take_add_one, hz, List.any_append, hno]
          simp [pf, h0, hf]
        have F8 := And.intro F1 (And.intro @x2 (And.intro @x3 (And.intro @hz (And.intro @x4 (And.intro @x5 (And.intro @x6 @x7))))))
        refine eS fun _ hn85 _ _ => ?_;refine eO fun _ hk86 => ?_;refine tZ F8 ?_;refine hk86 _ ?_;refine hn85 (some ([0,1,15,16,17,18], none)) _ ?_;refine eS fun _ hn87 _ _ => ?_;refine eCt ?_;refine hn87 (some ([0,1,15,16,17], none)) _ ?_;refine eS fun _ hn88 _ _ => ?_;refine eB fun _ hn89 _ _ _ => ?_;refine eS fun _ hn90 _ _ => ?_;refine eO fun _ hk91 => ?_;refine tC 1 F8 ?_;refine tC 1 F8 ?_;refine tL F8 ?_;refine hk91 _ ?_;refine hn90 (some ([0,1,6,15,16,17], none)) _ ?_;refine eS fun _ hn92 _ _ => ?_;refine eS fun _ hn93 _ _ => ?_;refine eO fun _ hk94 => ?_;refine tC 2 F8 ?_;refine tC 4 F8 ?_;refine tS 1 F8 ?_
        skip
        refine tL F8 ?_;refine hk94 _ ?_;refine hn93 (some ([0,1,6,15,16,17,28], none)) _ ?_;refine eCf ?_;refine hn92 (some ([0,1,6,15,16,17], none)) _ ?_;refine eS fun _ hn95 _ _ => ?_;refine eD [] (n := 19) fun _ hk96 => ?_;refine sq0 ?_;refine fC 2 F8 ?_;refine fC 4 F8 ?_;refine fC 4 F8 ?_;refine fC 1 F8 ?_;refine fC 2 F8 ?_;refine fC 4 F8 ?_;refine fZ F8 ?_;refine hk96 _ ?_;refine sr0 ?_;refine tS 1 F8 ?_;refine Or.inl (Or.inl ⟨_, kf _ _, ?_⟩);refine tL F8 ?_;refine hn95 (some ([0,1,15,16,17,49], none)) _ ?_;refine eCf ?_;refine hn89 _ ?_;refine hn88 (some ([0,1,15,16,17], none)) _ ?_;refine eO fun _ hk98 => ?_;refine tC 1 F8 ?_;refine tL F8 ?_;refine hk98 _ ?_;refine hn10 (h.length - (j + 1)) (some ([0,1,15,16,17], none)) _ ?_ ?_
        all_goals try refine lp0 ?_
        · omega
        · exact ⟨j + 1, by omega, by omega, hno2, by rfl⟩
end Go.Proofs.YtkoibcblmgmdmaaGreatDoor
