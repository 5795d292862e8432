/-
  Layer 13 by shadows: eras that are safe.
-/
import Derived.Test.YtkbgdhomdbolnaaGreatDoorMC
import Derived.Test.YtkbgdhomdbolnaaGreatDoorSc13
import Derived.Test.YtkbgdhomdbolnaaGreatDoorSc13l
namespace Go.Proofs.YtkbgdhomdbolnaaGreatDoor
set_option linter.unusedSimpArgs false
set_option linter.unusedVariables false
open Go.RowKit Go.Maps

abbrev eN1 (x : Int) : List Sh := [sI x]
def badE (a b n : Int) : Bool := decide (n ≠ 0 ∧ a ≤ n ∧ n ≤ b)
def safeE (a b : Int) (es : List Int) : Bool := !(es.any (badE a b))
theorem any_take_succ {p : Int → Bool} {es : List Int} {i : Nat} {n : Int} (h : es[i]? = some n) (h0 : (es.take i).any p = false) (h1 : p n = false) : (es.take (i + 1)).any p = false := by
  rw [List.take_add_one, h, List.any_append, h0]
  simp [h1]
theorem safe_bad {a b : Int} {es : List Int} {i : Nat} {n : Int} (h : es[i]? = some n) (h1 : badE a b n = true) : safeE a b es = false := by
  unfold safeE
  rw [Bool.not_eq_false', List.any_eq_true]
  exact ⟨n, List.mem_of_getElem? h, h1⟩
def OuInv (a b : Int) (g : Nat) (es : List Int) (k : Nat) (S : St) : Prop :=
  ∃ i : Nat, i ≤ es.length ∧ k = es.length - i ∧ (es.take i).any (badE a b) = false ∧ S = ⟨[(0, sI a), (1, sI b), (9, .sl 1 g (es.map eN1)), (10, sI es.length), (11, sI i)], [], 0⟩
set_option maxHeartbeats 4000000 in
theorem ok_eraOutside (a b : Int) (g : Nat) (es : List Int) (hl : es.length ≤ 1000000) : Ok 77 [sI a, sI b, .sl 1 g (es.map eN1)] (sB (safeE a b es)) := by
  refine ok_of_tr Tryz.func77 tr_eraOutside rfl ?_
  unfold evFn sc_eraOutside rv_eraOutside
  refine eS fun K1 hn1 hr1 he1 => ?_
  refine eO fun K2 hk2 => ?_
  refine tL0 ?_
  refine hk2 _ ?_
  refine hn1 (some ([0, 1, 2], none)) _ ?_
  refine eS fun K3 hn3 hr3 he3 => ?_
  refine eS fun K4 hn4 hr4 he4 => ?_
  refine eO fun K5 hk5 => ?_
  refine tL0 ?_
  refine hk5 _ ?_
  refine hn4 (some ([0, 1, 9, 10, 11], none)) _ ?_
  refine eB fun K6 hn6 hx6 hr6 he6 => ?_
  refine eW (OuInv a b g es) (es.length) (some ([0, 1, 9, 10, 11], some ([], 0))) ([]) ?_ ?_
  · try refine lp0 ?_
    exact ⟨0, by omega, by omega, by simp, by rfl⟩
  · intro k S1 hI
    obtain ⟨i, hi, rfl, h0, rfl⟩ := hI
    have hcase : i = es.length ∨ ∃ n, es[i]? = some n ∧ (n = 0 ∨ (n ≠ 0 ∧ n < a) ∨ (n ≠ 0 ∧ a ≤ n ∧ b < n) ∨ (n ≠ 0 ∧ a ≤ n ∧ n ≤ b)) := by
      by_cases h : i < es.length
      · exact .inr ⟨_, List.getElem?_eq_getElem h, by omega⟩
      · exact .inl (by omega)
    intro K7 hn7 hr7 he7
    rcases hcase with hcc | ⟨n, hn, hz | ⟨hz, ha⟩ | ⟨hz, ha, hb⟩ | ⟨hz, ha, hb⟩⟩
    · skip
      have w2 : ¬ (i : Int) < (es.length : Int) := by omega
      subst hcc
      rw [List.take_length] at h0
      have w3 : safeE a b es = true := by unfold safeE; rw [h0]; rfl
      have F1 := And.intro @w2 @w3
      refine eS fun K8 hn8 hr8 he8 => ?_
      refine eO fun K9 hk9 => ?_
      refine tZ F1 ?_
      refine hk9 _ ?_
      refine hn8 (some ([0, 1, 9, 10, 11, 12], none)) _ ?_
      refine eS fun K10 hn10 hr10 he10 => ?_
      refine eCf ?_
      refine he10 0 _ ?_
      refine he7 0 _ ?_
      refine hx6 _ ?_
      refine hn3 (some ([], none)) _ ?_
      refine eS fun K11 hn11 hr11 he11 => ?_
      refine eO fun K12 hk12 => ?_
      refine tL F1 ?_
      refine hk12 _ ?_
      refine hn11 (some ([6], none)) _ ?_
      exact sf1 F1
    · skip
      subst hz
      have hil : i < es.length := (List.getElem?_eq_some_iff.1 hn).1
      have w2 : (i : Int) < (es.length : Int) := by omega
      have w3 : IntKind.i64.wrap ((i : Int) + 1) = ((i + 1 : Nat) : Int) := by rw [IntKind.wrap_i64]; omega
      have w4 := any_take_succ hn h0 (show badE a b 0 = false by simp [badE])
      have F2 := And.intro @w2 (And.intro @w3 (And.intro @hn @hil))
      refine eS fun K13 hn13 hr13 he13 => ?_
      refine eO fun K14 hk14 => ?_
      refine tZ F2 ?_
      refine hk14 _ ?_
      refine hn13 (some ([0, 1, 9, 10, 11, 12], none)) _ ?_
      refine eS fun K15 hn15 hr15 he15 => ?_
      refine eCt ?_
      refine hn15 (some ([0, 1, 9, 10, 11], none)) _ ?_
      refine eS fun K16 hn16 hr16 he16 => ?_
      refine eB fun K17 hn17 hx17 hr17 he17 => ?_
      refine eS fun K18 hn18 hr18 he18 => ?_
      refine eO fun K19 hk19 => ?_
      refine tC 1 F2 ?_
      refine tC 1 F2 ?_
      refine tL F2 ?_
      refine hk19 _ ?_
      refine hn18 (some ([0, 1, 8, 9, 10, 11], none)) _ ?_
      refine eS fun K20 hn20 hr20 he20 => ?_
      refine eO fun K21 hk21 => ?_
      refine tC 2 F2 ?_
      refine tC 4 F2 ?_
      refine tC 5 F2 ?_
      refine tL F2 ?_
      refine hk21 _ ?_
      refine hn20 (some ([0, 1, 9, 10, 11, 26], none)) _ ?_
      refine eCf ?_
      refine hn17 _ ?_
      refine hn16 (some ([0, 1, 9, 10, 11], none)) _ ?_
      refine eO fun K22 hk22 => ?_
      refine tC 1 F2 ?_
      refine tL F2 ?_
      refine hk22 _ ?_
      refine hn7 (es.length - (i + 1)) (some ([0, 1, 9, 10, 11], some ([], 0))) _ ?_ ?_
      all_goals try refine lp0 ?_
      · omega
      · exact ⟨i + 1, by omega, by omega, w4, rfl⟩
    · skip
      have hil : i < es.length := (List.getElem?_eq_some_iff.1 hn).1
      have w2 : (i : Int) < (es.length : Int) := by omega
      have w3 : IntKind.i64.wrap ((i : Int) + 1) = ((i + 1 : Nat) : Int) := by rw [IntKind.wrap_i64]; omega
      have w4 := any_take_succ hn h0 (show badE a b n = false by simp [badE]; omega)
      have d1 : (n != 0) = true := by simpa using hz
      have d2 : ¬ a ≤ n := by omega
      have F3 := And.intro @w2 (And.intro @w3 (And.intro @hn (And.intro @hil (And.intro @d1 @d2))))
      refine eS fun K23 hn23 hr23 he23 => ?_
      refine eO fun K24 hk24 => ?_
      refine tZ F3 ?_
      refine hk24 _ ?_
      refine hn23 (some ([0, 1, 9, 10, 11, 12], none)) _ ?_
      refine eS fun K25 hn25 hr25 he25 => ?_
      refine eCt ?_
      refine hn25 (some ([0, 1, 9, 10, 11], none)) _ ?_
      refine eS fun K26 hn26 hr26 he26 => ?_
      refine eB fun K27 hn27 hx27 hr27 he27 => ?_
      refine eS fun K28 hn28 hr28 he28 => ?_
      refine eO fun K29 hk29 => ?_
      refine tC 1 F3 ?_
      refine tC 1 F3 ?_
      refine tL F3 ?_
      refine hk29 _ ?_
      refine hn28 (some ([0, 1, 8, 9, 10, 11], none)) _ ?_
      refine eS fun K30 hn30 hr30 he30 => ?_
      refine eO fun K31 hk31 => ?_
      refine tC 2 F3 ?_
      refine tC 4 F3 ?_
      refine tC 5 F3 ?_
      refine tL F3 ?_
      refine hk31 _ ?_
      refine hn30 (some ([0, 1, 9, 10, 11, 26], none)) _ ?_
      refine eCf ?_
      refine hn27 _ ?_
      refine hn26 (some ([0, 1, 9, 10, 11], none)) _ ?_
      refine eO fun K32 hk32 => ?_
      refine tC 1 F3 ?_
      refine tL F3 ?_
      refine hk32 _ ?_
      refine hn7 (es.length - (i + 1)) (some ([0, 1, 9, 10, 11], some ([], 0))) _ ?_ ?_
      all_goals try refine lp0 ?_
      · omega
      · exact ⟨i + 1, by omega, by omega, w4, rfl⟩
    · skip
      have hil : i < es.length := (List.getElem?_eq_some_iff.1 hn).1
      have w2 : (i : Int) < (es.length : Int) := by omega
      have w3 : IntKind.i64.wrap ((i : Int) + 1) = ((i + 1 : Nat) : Int) := by rw [IntKind.wrap_i64]; omega
      have w4 := any_take_succ hn h0 (show badE a b n = false by simp [badE]; omega)
      have d1 : (n != 0) = true := by simpa using hz
      have d3 : ¬ n ≤ b := by omega
      have F4 := And.intro @w2 (And.intro @w3 (And.intro @hn (And.intro @hil (And.intro @d1 (And.intro @ha @d3)))))
      refine eS fun K33 hn33 hr33 he33 => ?_
      refine eO fun K34 hk34 => ?_
      refine tZ F4 ?_
      refine hk34 _ ?_
      refine hn33 (some ([0, 1, 9, 10, 11, 12], none)) _ ?_
      refine eS fun K35 hn35 hr35 he35 => ?_
      refine eCt ?_
      refine hn35 (some ([0, 1, 9, 10, 11], none)) _ ?_
      refine eS fun K36 hn36 hr36 he36 => ?_
      refine eB fun K37 hn37 hx37 hr37 he37 => ?_
      refine eS fun K38 hn38 hr38 he38 => ?_
      refine eO fun K39 hk39 => ?_
      refine tC 1 F4 ?_
      refine tC 1 F4 ?_
      refine tL F4 ?_
      refine hk39 _ ?_
      refine hn38 (some ([0, 1, 8, 9, 10, 11], none)) _ ?_
      refine eS fun K40 hn40 hr40 he40 => ?_
      refine eO fun K41 hk41 => ?_
      refine tC 2 F4 ?_
      refine tC 4 F4 ?_
      refine tC 5 F4 ?_
      refine tL F4 ?_
      refine hk41 _ ?_
      refine hn40 (some ([0, 1, 9, 10, 11, 26], none)) _ ?_
      refine eCf ?_
      refine hn37 _ ?_
      refine hn36 (some ([0, 1, 9, 10, 11], none)) _ ?_
      refine eO fun K42 hk42 => ?_
      refine tC 1 F4 ?_
      refine tL F4 ?_
      refine hk42 _ ?_
      refine hn7 (es.length - (i + 1)) (some ([0, 1, 9, 10, 11], some ([], 0))) _ ?_ ?_
      all_goals try refine lp0 ?_
      · omega
      · exact ⟨i + 1, by omega, by omega, w4, rfl⟩
    · skip
      have hil : i < es.length := (List.getElem?_eq_some_iff.1 hn).1
      have w2 : (i : Int) < (es.length : Int) := by omega
      have d1 : (n != 0) = true := by simpa using hz
      have w4 := safe_bad hn (show badE a b n = true by simp [badE]; exact ⟨hz, ha, hb⟩)
      have F5 := And.intro @w2 (And.intro @hn (And.intro @hil (And.intro @d1 (And.intro @ha (And.intro @hb @w4)))))
      refine eS fun K43 hn43 hr43 he43 => ?_
      refine eO fun K44 hk44 => ?_
      refine tZ F5 ?_
      refine hk44 _ ?_
      refine hn43 (some ([0, 1, 9, 10, 11, 12], none)) _ ?_
      refine eS fun K45 hn45 hr45 he45 => ?_
      refine eCt ?_
      refine hn45 (some ([0, 1, 9, 10, 11], none)) _ ?_
      refine eS fun K46 hn46 hr46 he46 => ?_
      refine eB fun K47 hn47 hx47 hr47 he47 => ?_
      refine eS fun K48 hn48 hr48 he48 => ?_
      refine eO fun K49 hk49 => ?_
      refine tC 1 F5 ?_
      refine tC 1 F5 ?_
      refine tL F5 ?_
      refine hk49 _ ?_
      refine hn48 (some ([0, 1, 8, 9, 10, 11], none)) _ ?_
      refine eS fun K50 hn50 hr50 he50 => ?_
      refine eO fun K51 hk51 => ?_
      refine tC 2 F5 ?_
      refine tC 4 F5 ?_
      refine tC 5 F5 ?_
      refine tL F5 ?_
      refine hk51 _ ?_
      refine hn50 (some ([0, 1, 9, 10, 11, 26], none)) _ ?_
      refine eCt ?_
      refine eS fun K52 hn52 hr52 he52 => ?_
      refine eO fun K53 hk53 => ?_
      refine tL F5 ?_
      refine hk53 _ ?_
      refine hn52 (some ([6], none)) _ ?_
      refine hr47 _ ?_
      refine hr46 _ ?_
      refine hr7 _ ?_
      refine hr6 _ ?_
      refine hr3 _ ?_
      exact sf1 F5
theorem ok_eraSafe (a b : Int) (g : Nat) (es : List Int) (hl : es.length ≤ 1000000) : Ok 49 [sI a, sI b, .sl 1 g (es.map eN1)] (sB (safeE a b es)) := by
  refine ok_of_tr Tryz.func49 tr_eraSafe rfl ?_
  have k0 := ok_eraOutside a b g es hl
  generalize safeE a b es = x at k0 ⊢
  unfold evFn sc_eraSafe rv_eraSafe
  refine eS fun K1 hn1 hr1 he1 => ?_
  refine eO fun K2 hk2 => ?_
  refine tL0 ?_
  refine hk2 _ ?_
  refine hn1 (some ([0, 1, 2], none)) _ ?_
  refine eS fun K3 hn3 hr3 he3 => ?_
  refine eO fun K4 hk4 => ?_
  refine tS0 3 ?_
  refine tS0 1 ?_
  refine Or.inl (Or.inl ⟨_, k0, ?_⟩)
  refine tL0 ?_
  refine hk4 _ ?_
  refine hn3 (some ([6], none)) _ ?_
  exact sf0
end Go.Proofs.YtkbgdhomdbolnaaGreatDoor
