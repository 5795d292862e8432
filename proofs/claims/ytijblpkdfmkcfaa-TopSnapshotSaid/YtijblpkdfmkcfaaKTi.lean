/-
  TopSnapshot by shadows: commits.
-/
import Derived.Test.YtijblpkdfmkcfaaKTh
namespace Go.Proofs.Ytijblpkdfmkcfaa
set_option linter.unusedSimpArgs false
set_option linter.unusedVariables false
open Go.RowKit Go.Maps

/-- Entries that match the store. -/
structure EnsAt (s : SnM) (es : List EnV) : Prop where
  ens : EnsOk es
  at_ : ∀ e ∈ es, inC s e.loc = true ∧ e.val = (lastP (listM s e.loc)).2 ∧ e.ver = (s.writes e.loc).getD 0
def SwInv (s : SnM) (es : List EnV) (a b c : Nat) (p : Nat × Sh) (k : Nat) (S : St) : Prop :=
  ∃ i : Nat, i ≤ es.length ∧ k = es.length - i ∧ S = ⟨p :: [(2, .ptr 0 0 0), (a, .sl 6 0 (es.map eEn)), (b, sI es.length), (c, sI i)], [(0, .box 30 (eSn s))], 1⟩
def SwInv2 (s : SnM) (es : List EnV) (k : Nat) (S : St) : Prop :=
  ∃ i : Nat, i ≤ es.length ∧ k = es.length - i ∧ S = ⟨[(2, .ptr 0 0 0), (27, .sl 6 0 (es.map eEn)), (28, sI es.length), (29, sI i)], [(0, .box 30 (eSn s))], 1⟩
theorem ok_snWrong {s : SnM} (h : SnOk s) {es : List EnV} (hE : EnsAt s es) : Ok 16 [shSn s, .sl 6 0 (es.map eEn)] (sI 0) := by
  have h1 := hE.ens.len
  refine ok_of_tr Try.func16 tr_snWrong rfl ?_
  have hL : (eRds s.rd).length = 16 := by rw [eRds_len, h.rd]
  have hO := eRds_one s.rd
  have hA := fun S => eRds_arg S s.rd
  have hT := eRds_take h.rd
  have hF := fun S => eRds_frz S s.rd
  have k0 := ok_enCheck hE.ens
  have ex : ∀ i : Nat, i ≤ es.length → i = es.length ∨ ∃ x, es[i]? = some x := fun i hi => by
    rcases Nat.lt_or_ge i es.length with h | h
    · exact .inr ⟨_, List.getElem?_eq_getElem h⟩
    · exact .inl (by omega)
  unfold evFn sc_snWrong rv_snWrong
  have F1 := And.intro @hL (And.intro @hO (And.intro @hA (And.intro @hT @hF)))
  refine eS fun K1 hn1 hr1 he1 => ?_
  refine eO fun K2 hk2 => ?_
  refine tL F1 ?_
  refine hk2 _ ?_
  refine hn1 (some ([1, 2], none)) _ ?_
  refine eS fun K3 hn3 hr3 he3 => ?_
  refine eS fun K4 hn4 hr4 he4 => ?_
  refine eO fun K5 hk5 => ?_
  refine tS 1 F1 ?_
  refine tS 1 F1 ?_
  refine Or.inl (Or.inl ⟨_, k0, ?_⟩)
  refine tL F1 ?_
  refine hk5 _ ?_
  refine hn4 (some ([1, 2, 5], none)) _ ?_
  refine eS fun K6 hn6 hr6 he6 => ?_
  refine eO fun K7 hk7 => ?_
  refine tZ F1 ?_
  refine hk7 _ ?_
  refine hn6 (some ([1, 2, 5, 13], none)) _ ?_
  refine eCf ?_
  refine hn3 (some ([1, 2], none)) _ ?_
  refine eS fun K8 hn8 hr8 he8 => ?_
  refine eS fun K9 hn9 hr9 he9 => ?_
  refine eO fun K10 hk10 => ?_
  refine tL F1 ?_
  refine hk10 _ ?_
  refine hn9 (some ([1, 2, 15, 16, 17], none)) _ ?_
  refine eB fun K11 hn11 hx11 hr11 he11 => ?_
  refine eW (SwInv s es 15 16 17 (1, .sl 6 0 (es.map eEn))) (es.length) (some ([1, 2, 15, 16, 17], some ([0], 1))) ([]) ?_ ?_
  · try refine lp0 ?_
    exact ⟨0, by omega, by omega, by simp only [eRds_refs, eRds_ren, if_true] <;> rfl⟩
  · intro k S1 hI
    obtain ⟨i, hi, rfl, rfl⟩ := hI
    intro K12 hn12 hr12 he12
    rcases ex i hi with hcc | ⟨x, hx1⟩
    · skip
      have w2 : ¬ (i : Int) < (es.length : Int) := by omega
      have F2 := And.intro F1 @w2
      refine eS fun K13 hn13 hr13 he13 => ?_
      refine eO fun K14 hk14 => ?_
      refine tZ F2 ?_
      refine hk14 _ ?_
      refine hn13 (some ([1, 2, 15, 16, 17, 18], none)) _ ?_
      refine eS fun K15 hn15 hr15 he15 => ?_
      refine eCf ?_
      refine he15 0 _ ?_
      refine he12 0 _ ?_
      refine hx11 _ ?_
      refine hn8 (some ([1, 2], none)) _ ?_
      refine eS fun K16 hn16 hr16 he16 => ?_
      refine eS fun K17 hn17 hr17 he17 => ?_
      refine eO fun K18 hk18 => ?_
      refine tL F2 ?_
      refine hk18 _ ?_
      refine hn17 (some ([2, 27, 28, 29], none)) _ ?_
      refine eB fun K19 hn19 hx19 hr19 he19 => ?_
      refine eW (SwInv2 s es) (es.length) (some ([2, 27, 28, 29], some ([0], 1))) ([]) ?_ ?_
      · try refine lp0 ?_
        exact ⟨0, by omega, by omega, by simp only [eRds_refs, eRds_ren, if_true] <;> rfl⟩
      · intro k S1 hI
        obtain ⟨i, hi, rfl, rfl⟩ := hI
        intro K20 hn20 hr20 he20
        rcases ex i hi with hcc | ⟨x, hx1⟩
        · skip
          have w2 : ¬ (i : Int) < (es.length : Int) := by omega
          have F3 := And.intro F2 @w2
          refine eS fun K21 hn21 hr21 he21 => ?_
          refine eO fun K22 hk22 => ?_
          refine tZ F3 ?_
          refine hk22 _ ?_
          refine hn21 (some ([2, 27, 28, 29, 30], none)) _ ?_
          refine eS fun K23 hn23 hr23 he23 => ?_
          refine eCf ?_
          refine he23 2 _ ?_
          refine he20 2 _ ?_
          refine hx19 _ ?_
          refine hn16 (some ([], none)) _ ?_
          refine eS fun K24 hn24 hr24 he24 => ?_
          refine eO fun K25 hk25 => ?_
          refine tL F3 ?_
          refine hk25 _ ?_
          refine hn24 (some ([4], none)) _ ?_
          exact sf1 F3
        · skip
          have hlt := (List.getElem?_eq_some_iff.1 hx1).1
          have w2 : (i : Int) < (es.length : Int) := by omega
          have w3 : IntKind.i64.wrap ((i : Int) + 1) = ((i + 1 : Nat) : Int) := by rw [IntKind.wrap_i64]; omega
          obtain ⟨a1, a2, a3⟩ := hE.at_ x (List.mem_of_getElem? hx1)
          have kw := ok_snWord h x.loc a1
          rw [← a2, ← a3] at kw
          have F4 := And.intro F2 (And.intro @w2 (And.intro @w3 @hx1))
          refine eS fun K26 hn26 hr26 he26 => ?_
          refine eO fun K27 hk27 => ?_
          refine tZ F4 ?_
          refine hk27 _ ?_
          refine hn26 (some ([2, 27, 28, 29, 30], none)) _ ?_
          refine eS fun K28 hn28 hr28 he28 => ?_
          refine eCt ?_
          refine hn28 (some ([2, 27, 28, 29], none)) _ ?_
          refine eS fun K29 hn29 hr29 he29 => ?_
          refine eB fun K30 hn30 hx30 hr30 he30 => ?_
          refine eS fun K31 hn31 hr31 he31 => ?_
          refine eO fun K32 hk32 => ?_
          refine tC 1 F4 ?_
          refine tC 1 F4 ?_
          refine tZ F4 ?_
          refine hk32 _ ?_
          refine hn31 (some ([2, 9, 27, 28, 29], none)) _ ?_
          refine eS fun K33 hn33 hr33 he33 => ?_
          refine eD [] (n := 6) fun K34 hk34 => ?_
          refine sq0 ?_
          refine fC 1 F4 ?_
          refine fC 2 F4 ?_
          refine fS 1 F4 ?_
          refine ⟨_, kw, ?_⟩
          refine fZ F4 ?_
          refine hk34 _ ?_
          refine sr0 ?_
          refine tL F4 ?_
          refine Or.inl ⟨_, eqsh_word_refl ⟨x.val, x.ver, 0⟩, ?_⟩
          refine hn33 (some ([2, 27, 28, 29, 39], none)) _ ?_
          refine eCf ?_
          refine hn30 _ ?_
          refine hn29 (some ([2, 27, 28, 29], none)) _ ?_
          refine eO fun K36 hk36 => ?_
          refine tC 1 F4 ?_
          refine tL F4 ?_
          refine hk36 _ ?_
          refine hn20 (es.length - (i + 1)) (some ([2, 27, 28, 29], some ([0], 1))) _ ?_ ?_
          all_goals try refine lp0 ?_
          · omega
          · exact ⟨i + 1, by omega, rfl, by simp only [eRds_refs, eRds_ren, if_true] <;> rfl⟩
    · skip
      have hlt := (List.getElem?_eq_some_iff.1 hx1).1
      have w2 : (i : Int) < (es.length : Int) := by omega
      have w3 : IntKind.i64.wrap ((i : Int) + 1) = ((i + 1 : Nat) : Int) := by rw [IntKind.wrap_i64]; omega
      have kc := ok_snCell s x.loc h.rd
      rw [(hE.at_ x (List.mem_of_getElem? hx1)).1] at kc
      have F5 := And.intro F1 (And.intro @w2 (And.intro @w3 @hx1))
      refine eS fun K37 hn37 hr37 he37 => ?_
      refine eO fun K38 hk38 => ?_
      refine tZ F5 ?_
      refine hk38 _ ?_
      refine hn37 (some ([1, 2, 15, 16, 17, 18], none)) _ ?_
      refine eS fun K39 hn39 hr39 he39 => ?_
      refine eCt ?_
      refine hn39 (some ([1, 2, 15, 16, 17], none)) _ ?_
      refine eS fun K40 hn40 hr40 he40 => ?_
      refine eB fun K41 hn41 hx41 hr41 he41 => ?_
      refine eS fun K42 hn42 hr42 he42 => ?_
      refine eO fun K43 hk43 => ?_
      refine tC 1 F5 ?_
      refine tC 1 F5 ?_
      refine tZ F5 ?_
      refine hk43 _ ?_
      refine hn42 (some ([1, 2, 7, 15, 16, 17], none)) _ ?_
      refine eS fun K44 hn44 hr44 he44 => ?_
      refine eO fun K45 hk45 => ?_
      refine tC 1 F5 ?_
      refine tC 2 F5 ?_
      refine tS 1 F5 ?_
      refine Or.inl (Or.inl ⟨_, kc, ?_⟩)
      refine tL F5 ?_
      refine hk45 _ ?_
      refine hn44 (some ([1, 2, 15, 16, 17, 25], none)) _ ?_
      refine eCf ?_
      refine hn41 _ ?_
      refine hn40 (some ([1, 2, 15, 16, 17], none)) _ ?_
      refine eO fun K46 hk46 => ?_
      refine tC 1 F5 ?_
      refine tL F5 ?_
      refine hk46 _ ?_
      refine hn12 (es.length - (i + 1)) (some ([1, 2, 15, 16, 17], some ([0], 1))) _ ?_ ?_
      all_goals try refine lp0 ?_
      · omega
      · exact ⟨i + 1, by omega, rfl, by simp only [eRds_refs, eRds_ren, if_true] <;> rfl⟩
end Go.Proofs.Ytijblpkdfmkcfaa
