/-
  TopSnapshot by shadows: entries.
-/
import Derived.Test.YtijblpkdfmkcfaaKTg
namespace Go.Proofs.Ytijblpkdfmkcfaa
set_option linter.unusedSimpArgs false
set_option linter.unusedVariables false
open Go.RowKit Go.Maps

/-- An entry that writes. -/
structure EnV where
  loc : Int
  val : Int
  ver : Int
  new : Int
abbrev eEn (e : EnV) : List Sh := [sI e.loc, sI e.val, sU e.ver, sU 0, sI e.new, sB true]
def EnOk (e : EnV) : Prop := 0 ≤ e.loc ∧ e.loc < 2048 ∧ 0 ≤ e.ver ∧ e.ver < 100000
theorem ok_enWrong {e : EnV} (h : EnOk e) : Ok 32 [.agg (eEn e)] (sI 0) := by
  obtain ⟨h1, h2, h3, h4⟩ := h
  refine ok_of_tr Try.func32 tr_enWrong rfl ?_
  have k0 := ok_woPlain0 e.val e.ver
  have d1 : ¬ e.loc < 0 := by omega
  have d2 : ¬ e.loc ≥ 4096 := by omega
  have d3 : (e.ver == 4294967295) = false := by simp; omega
  unfold evFn sc_enWrong rv_enWrong
  have F1 := And.intro @d1 (And.intro @d2 @d3)
  refine eS fun K1 hn1 hr1 he1 => ?_
  refine eO fun K2 hk2 => ?_
  refine tL F1 ?_
  refine hk2 _ ?_
  refine hn1 (some ([1], none)) _ ?_
  refine eS fun K3 hn3 hr3 he3 => ?_
  refine eB fun K4 hn4 hx4 hr4 he4 => ?_
  refine eS fun K5 hn5 hr5 he5 => ?_
  refine eO fun K6 hk6 => ?_
  refine tC 2 F1 ?_
  refine tC 1 F1 ?_
  refine tC 3 F1 ?_
  refine tC 1 F1 ?_
  refine tL F1 ?_
  refine hk6 _ ?_
  refine hn5 (some ([1, 3], none)) _ ?_
  refine eCf ?_
  refine eS fun K7 hn7 hr7 he7 => ?_
  refine eO fun K8 hk8 => ?_
  refine tC 2 F1 ?_
  refine tS 1 F1 ?_
  refine Or.inl (Or.inl ⟨_, k0, ?_⟩)
  refine tL F1 ?_
  refine hk8 _ ?_
  refine hn7 (some ([1, 12], none)) _ ?_
  refine eCf ?_
  refine eS fun K9 hn9 hr9 he9 => ?_
  refine eO fun K10 hk10 => ?_
  refine tC 2 F1 ?_
  refine tC 4 F1 ?_
  refine tC 1 F1 ?_
  refine tL F1 ?_
  refine hk10 _ ?_
  refine hn9 (some ([1, 17], none)) _ ?_
  refine eCf ?_
  refine eS fun K11 hn11 hr11 he11 => ?_
  refine eO fun K12 hk12 => ?_
  refine tC 2 F1 ?_
  refine tC 4 F1 ?_
  refine tC 3 F1 ?_
  refine tC 1 F1 ?_
  refine tL F1 ?_
  refine hk12 _ ?_
  refine hn11 (some ([26], none)) _ ?_
  refine eCf ?_
  refine hn4 _ ?_
  refine hn3 (some ([], none)) _ ?_
  refine eS fun K13 hn13 hr13 he13 => ?_
  refine eO fun K14 hk14 => ?_
  refine tL F1 ?_
  refine hk14 _ ?_
  refine hn13 (some ([2], none)) _ ?_
  exact sf1 F1
theorem ok_enCheck1 (y x : EnV) : Ok 34 [.agg (eEn y), .fp (eEn x) 0] (sB (y.loc == x.loc)) := by
  refine ok_of_tr Try.func34 tr_enCheck1 rfl ?_
  unfold evFn sc_enCheck1 rv_enCheck1
  refine eS fun K1 hn1 hr1 he1 => ?_
  refine eO fun K2 hk2 => ?_
  refine tL0 ?_
  refine hk2 _ ?_
  refine hn1 (some ([1, 2], none)) _ ?_
  refine eS fun K3 hn3 hr3 he3 => ?_
  refine eO fun K4 hk4 => ?_
  refine tC0 2 ?_
  refine tC0 2 ?_
  refine tC0 1 ?_
  refine tL0 ?_
  refine hk4 _ ?_
  refine hn3 (some ([3], none)) _ ?_
  exact sf0
theorem enters_enCheck1 : Enters 34 := callFunc_enter Try.func34 rfl rfl
def IeInv (g : Nat) (x : EnV) (a : List EnV) (k : Nat) (S : St) : Prop :=
  ∃ i : Nat, i ≤ a.length ∧ k = a.length - i ∧ S = ⟨[(0, .sl 6 g (a.map eEn)), (1, .fn (.func 34) [] [.fp (eEn x) 0]), (7, sI a.length), (8, sI i)], [], 0⟩
theorem ok_indexEntry (g : Nat) (x : EnV) (a : List EnV) (hn : a.length ≤ 1000) (hf : ∀ y ∈ a, y.loc ≠ x.loc) : Ok 40 [.sl 6 g (a.map eEn), .fn (.func 34) [] [.fp (eEn x) 0]] (sI (-1)) := by
  refine ok_of_tr Try.func40 tr_indexEntry rfl ?_
  unfold evFn sc_indexEntry rv_indexEntry
  refine eS fun K1 hn1 hr1 he1 => ?_
  refine eO fun K2 hk2 => ?_
  refine tL0 ?_
  refine hk2 _ ?_
  refine hn1 (some ([0, 1], none)) _ ?_
  refine eS fun K3 hn3 hr3 he3 => ?_
  refine eS fun K4 hn4 hr4 he4 => ?_
  refine eO fun K5 hk5 => ?_
  refine tL0 ?_
  refine hk5 _ ?_
  refine hn4 (some ([0, 1, 7, 8], none)) _ ?_
  refine eB fun K6 hn6 hx6 hr6 he6 => ?_
  refine eW (IeInv g x a) (a.length) (some ([0, 1, 7, 8], none)) ([]) ?_ ?_
  · try refine lp0 ?_
    exact ⟨0, by omega, by omega, by rfl⟩
  · intro k S1 hI
    obtain ⟨i, hi, rfl, rfl⟩ := hI
    have hcase : i = a.length ∨ (∃ y, a[i]? = some y ∧ y.loc ≠ x.loc) := by
      rcases Nat.lt_or_ge i a.length with h | h
      · exact .inr ⟨_, List.getElem?_eq_getElem h, hf _ (List.getElem_mem h)⟩
      · exact .inl (by omega)
    intro K7 hn7 hr7 he7
    rcases hcase with hcc | ⟨y, hx1, hb⟩
    · skip
      have w2 : ¬ (i : Int) < (a.length : Int) := by omega
      have F1 := @w2
      refine eS fun K8 hn8 hr8 he8 => ?_
      refine eO fun K9 hk9 => ?_
      refine tZ F1 ?_
      refine hk9 _ ?_
      refine hn8 (some ([0, 1, 7, 8, 9], none)) _ ?_
      refine eS fun K10 hn10 hr10 he10 => ?_
      refine eCf ?_
      refine he10 0 _ ?_
      refine he7 0 _ ?_
      refine hx6 _ ?_
      refine hn3 (some ([], none)) _ ?_
      refine eS fun K11 hn11 hr11 he11 => ?_
      refine eO fun K12 hk12 => ?_
      refine tL F1 ?_
      refine hk12 _ ?_
      refine hn11 (some ([4], none)) _ ?_
      exact sf1 F1
    · skip
      have hlt := (List.getElem?_eq_some_iff.1 hx1).1
      have w2 : (i : Int) < (a.length : Int) := by omega
      have w3 : IntKind.i64.wrap ((i : Int) + 1) = ((i + 1 : Nat) : Int) := by rw [IntKind.wrap_i64]; omega
      have kf := ok_enCheck1 y x
      rw [show (y.loc == x.loc) = false by simpa using hb] at kf
      have F2 := And.intro @w2 (And.intro @w3 @hx1)
      refine eS fun K13 hn13 hr13 he13 => ?_
      refine eO fun K14 hk14 => ?_
      refine tZ F2 ?_
      refine hk14 _ ?_
      refine hn13 (some ([0, 1, 7, 8, 9], none)) _ ?_
      refine eS fun K15 hn15 hr15 he15 => ?_
      refine eCt ?_
      refine hn15 (some ([0, 1, 7, 8], none)) _ ?_
      refine eS fun K16 hn16 hr16 he16 => ?_
      refine eB fun K17 hn17 hx17 hr17 he17 => ?_
      refine eS fun K18 hn18 hr18 he18 => ?_
      refine eO fun K19 hk19 => ?_
      refine tL F2 ?_
      refine hk19 _ ?_
      refine hn18 (some ([0, 1, 5, 7, 8], none)) _ ?_
      refine eS fun K20 hn20 hr20 he20 => ?_
      refine eO fun K21 hk21 => ?_
      refine tC 4 F2 ?_
      refine tC 1 F2 ?_
      refine tL F2 ?_
      refine Or.inl ⟨enters_enCheck1, _, kf, ?_⟩
      refine hk21 _ ?_
      refine hn20 (some ([0, 1, 5, 7, 8, 16], none)) _ ?_
      refine eCf ?_
      refine hn17 _ ?_
      refine hn16 (some ([0, 1, 7, 8], none)) _ ?_
      refine eO fun K22 hk22 => ?_
      refine tC 1 F2 ?_
      refine tL F2 ?_
      refine hk22 _ ?_
      refine hn7 (a.length - (i + 1)) (some ([0, 1, 7, 8], none)) _ ?_ ?_
      all_goals try refine lp0 ?_
      · omega
      · exact ⟨i + 1, by omega, rfl, rfl⟩
theorem ok_containsEntry (g : Nat) (x : EnV) (a : List EnV) (hn : a.length ≤ 1000) (hf : ∀ y ∈ a, y.loc ≠ x.loc) : Ok 33 [.sl 6 g (a.map eEn), .fn (.func 34) [] [.fp (eEn x) 0]] (sB false) := by
  refine ok_of_tr Try.func33 tr_containsEntry rfl ?_
  have k0 := ok_indexEntry g x a hn hf
  unfold evFn sc_containsEntry rv_containsEntry
  refine eS fun K1 hn1 hr1 he1 => ?_
  refine eO fun K2 hk2 => ?_
  refine tL0 ?_
  refine hk2 _ ?_
  refine hn1 (some ([0, 1], none)) _ ?_
  refine eS fun K3 hn3 hr3 he3 => ?_
  refine eO fun K4 hk4 => ?_
  refine tS0 2 ?_
  refine tS0 1 ?_
  refine Or.inl (Or.inl ⟨_, k0, ?_⟩)
  refine tC0 1 ?_
  refine tL0 ?_
  refine hk4 _ ?_
  refine hn3 (some ([4], none)) _ ?_
  exact sf0
/-- The entries of a commit. -/
structure EnsOk (es : List EnV) : Prop where
  ne : es ≠ []
  len : es.length ≤ 32
  ok : ∀ e ∈ es, EnOk e
  apart : ∀ (i j : Nat) x y, i < j → es[i]? = some x → es[j]? = some y → x.loc ≠ y.loc
def EcInv (es : List EnV) (k : Nat) (S : St) : Prop :=
  ∃ i : Nat, i ≤ es.length ∧ k = es.length - i ∧ S = ⟨[(0, .sl 6 0 (es.map eEn)), (14, .sl 6 0 (es.map eEn)), (15, sI es.length), (16, sI i)], [], 0⟩
theorem ok_enCheck {es : List EnV} (h : EnsOk es) : Ok 24 [.sl 6 0 (es.map eEn)] (sI 0) := by
  have h1 := h.len
  have h0 : 0 < es.length := List.length_pos_iff.2 h.ne
  refine ok_of_tr Try.func24 tr_enCheck rfl ?_
  have d1 : ((es.length : Int) == 0) = false := by simp; exact h.ne
  have d2 : ¬ (es.length : Int) > 32 := by omega
  unfold evFn sc_enCheck rv_enCheck
  have F1 := And.intro @d1 @d2
  refine eS fun K1 hn1 hr1 he1 => ?_
  refine eO fun K2 hk2 => ?_
  refine tL F1 ?_
  refine hk2 _ ?_
  refine hn1 (some ([0], none)) _ ?_
  refine eS fun K3 hn3 hr3 he3 => ?_
  refine eB fun K4 hn4 hx4 hr4 he4 => ?_
  refine eS fun K5 hn5 hr5 he5 => ?_
  refine eO fun K6 hk6 => ?_
  refine tC 3 F1 ?_
  refine tL F1 ?_
  refine hk6 _ ?_
  refine hn5 (some ([0, 6], none)) _ ?_
  refine eCf ?_
  refine eS fun K7 hn7 hr7 he7 => ?_
  refine eO fun K8 hk8 => ?_
  refine tC 3 F1 ?_
  refine tL F1 ?_
  refine hk8 _ ?_
  refine hn7 (some ([0, 10], none)) _ ?_
  refine eCf ?_
  refine hn4 _ ?_
  refine hn3 (some ([0], none)) _ ?_
  refine eS fun K9 hn9 hr9 he9 => ?_
  refine eS fun K10 hn10 hr10 he10 => ?_
  refine eO fun K11 hk11 => ?_
  refine tL F1 ?_
  refine hk11 _ ?_
  refine hn10 (some ([0, 14, 15, 16], none)) _ ?_
  refine eB fun K12 hn12 hx12 hr12 he12 => ?_
  refine eW (EcInv es) (es.length) (some ([0, 14, 15, 16], some ([], 0))) ([]) ?_ ?_
  · try refine lp0 ?_
    exact ⟨0, by omega, by omega, by rfl⟩
  · intro k S1 hI
    obtain ⟨i, hi, rfl, rfl⟩ := hI
    have hcase : i = es.length ∨ (∃ x, es[i]? = some x) := by
      rcases Nat.lt_or_ge i es.length with h | h
      · exact .inr ⟨_, List.getElem?_eq_getElem h⟩
      · exact .inl (by omega)
    intro K13 hn13 hr13 he13
    rcases hcase with hcc | ⟨x, hx1⟩
    · skip
      have w2 : ¬ (i : Int) < (es.length : Int) := by omega
      have F2 := And.intro F1 @w2
      refine eS fun K14 hn14 hr14 he14 => ?_
      refine eO fun K15 hk15 => ?_
      refine tZ F2 ?_
      refine hk15 _ ?_
      refine hn14 (some ([0, 14, 15, 16, 17], none)) _ ?_
      refine eS fun K16 hn16 hr16 he16 => ?_
      refine eCf ?_
      refine he16 1 _ ?_
      refine he13 1 _ ?_
      refine hx12 _ ?_
      refine hn9 (some ([], none)) _ ?_
      refine eS fun K17 hn17 hr17 he17 => ?_
      refine eO fun K18 hk18 => ?_
      refine tL F2 ?_
      refine hk18 _ ?_
      refine hn17 (some ([2], none)) _ ?_
      exact sf1 F2
    · skip
      have hlt := (List.getElem?_eq_some_iff.1 hx1).1
      have w2 : (i : Int) < (es.length : Int) := by omega
      have w3 : IntKind.i64.wrap ((i : Int) + 1) = ((i + 1 : Nat) : Int) := by rw [IntKind.wrap_i64]; omega
      have w4 : (i : Int) ≤ (es.length : Int) := by omega
      have kw := ok_enWrong (h.ok x (List.mem_of_getElem? hx1))
      have kc := ok_containsEntry 2 x (es.take i) (by rw [List.length_take]; omega) (fun y hy => by
        obtain ⟨j, hj, rfl⟩ := List.getElem_of_mem hy
        rw [List.length_take] at hj
        refine h.apart j i _ x (by omega) ?_ hx1
        rw [List.getElem_take, List.getElem?_eq_getElem (by omega)])
      rw [List.map_take] at kc
      have F3 := And.intro F1 (And.intro @w2 (And.intro @w3 (And.intro @hx1 @w4)))
      refine eS fun K19 hn19 hr19 he19 => ?_
      refine eO fun K20 hk20 => ?_
      refine tZ F3 ?_
      refine hk20 _ ?_
      refine hn19 (some ([0, 14, 15, 16, 17], none)) _ ?_
      refine eS fun K21 hn21 hr21 he21 => ?_
      refine eCt ?_
      refine hn21 (some ([0, 14, 15, 16], none)) _ ?_
      refine eS fun K22 hn22 hr22 he22 => ?_
      refine eB fun K23 hn23 hx23 hr23 he23 => ?_
      refine eS fun K24 hn24 hr24 he24 => ?_
      refine eO fun K25 hk25 => ?_
      refine tC 2 F3 ?_
      refine tC 1 F3 ?_
      refine tZ F3 ?_
      refine hk25 _ ?_
      refine hn24 (some ([0, 3, 4, 14, 15, 16], none)) _ ?_
      refine eS fun K26 hn26 hr26 he26 => ?_
      refine eS fun K27 hn27 hr27 he27 => ?_
      refine eO fun K28 hk28 => ?_
      refine tC 1 F3 ?_
      refine tS 1 F3 ?_
      refine Or.inl (Or.inl ⟨_, kw, ?_⟩)
      refine tL F3 ?_
      refine hk28 _ ?_
      refine hn27 (some ([0, 3, 4, 5, 14, 15, 16], none)) _ ?_
      refine eS fun K29 hn29 hr29 he29 => ?_
      refine eO fun K30 hk30 => ?_
      refine tZ F3 ?_
      refine hk30 _ ?_
      refine hn29 (some ([0, 3, 4, 5, 14, 15, 16, 24], none)) _ ?_
      refine eCf ?_
      refine hn26 (some ([0, 3, 4, 14, 15, 16], none)) _ ?_
      refine eS fun K31 hn31 hr31 he31 => ?_
      refine eO fun K32 hk32 => ?_
      refine tC 3 F3 ?_
      refine tS 1 F3 ?_
      refine tL F3 ?_
      refine Or.inl (Or.inl ⟨_, kc, ?_⟩)
      refine hk32 _ ?_
      refine hn31 (some ([0, 14, 15, 16, 30], none)) _ ?_
      refine eCf ?_
      refine hn23 _ ?_
      refine hn22 (some ([0, 14, 15, 16], none)) _ ?_
      refine eO fun K33 hk33 => ?_
      refine tC 1 F3 ?_
      refine tL F3 ?_
      refine hk33 _ ?_
      refine hn13 (es.length - (i + 1)) (some ([0, 14, 15, 16], some ([], 0))) _ ?_ ?_
      all_goals try refine lp0 ?_
      · omega
      · exact ⟨i + 1, by omega, rfl, rfl⟩
end Go.Proofs.Ytijblpkdfmkcfaa
