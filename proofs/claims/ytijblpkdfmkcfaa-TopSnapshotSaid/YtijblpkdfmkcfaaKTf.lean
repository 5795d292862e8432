/-
  TopSnapshot by shadows: opening, the open readers.
-/
import Derived.Test.YtijblpkdfmkcfaaKTe
namespace Go.Proofs.Ytijblpkdfmkcfaa
set_option linter.unusedSimpArgs false
set_option linter.unusedVariables false
open Go.RowKit Go.Maps

abbrev eZs : List Sh := [sI 0, sI 0, .mp 44 fun _ => none, .mp 44 fun _ => none, sB false, sI 0, sB false, sI 0, sB false, sI 0, sB false, sI 0, sB false, sI 0, sB false, sI 0, sB false, sI 0, sB false, sI 0]
def openM (s : SnM) (i : Nat) : SnM := { s with rd := s.rd.set i (true, s.now) }
theorem infoReader : (Try.prog.info? 27).map (fun i => i.size) = some 2 := by kernel_rfl
theorem aggReader (w : World) : (isAgg 27).run Try.prog w = .ok true w := by simp [isAgg, run_underlying Try.underlying27]
theorem gen_rd {x j : Operand} {cs : List Sh} {n : Nat} (hn : n < 8) : GenRel (.index 28 x j) [x, j] [.agg cs, sI n] (.agg ((cs.drop (n * 2)).take 2)) := by
  obtain ⟨i, hi, e⟩ := Option.map_eq_some_iff.1 infoReader
  exact gen_indexk (n := (n : Int)) Try.underlying28 hi e aggReader (by omega) (by omega)
def OpInv (s : SnM) (m : Nat) (k : Nat) (S : St) : Prop :=
  ∃ i : Nat, i ≤ m ∧ k = 8 - i ∧ S = ⟨[(1, .ptr 0 0 0), (2, .ptr 1 0 0), (8, .agg (eRds s.rd)), (9, sI i)], [(0, .box 30 (eSn s)), (1, .box 30 eZs)], 2⟩
theorem ok_snOpen_no {s : SnM} (h : SnOk s) (hall : ∀ j, j < 8 → ∃ x, s.rd[j]? = some (true, x)) : Ok 6 [shSn s] (.tup [shSn s, sI 0, sI 9]) := by
  have h8 := h.rd
  refine ok_of_tr Try.func6 tr_snOpen rfl ?_
  have hL : (eRds s.rd).length = 16 := by rw [eRds_len, h.rd]
  have hO := eRds_one s.rd
  have hA := fun S => eRds_arg S s.rd
  have hT := eRds_take h.rd
  have hF := fun S => eRds_frz S s.rd
  unfold evFn sc_snOpen rv_snOpen
  have F1 := And.intro @hL (And.intro @hO (And.intro @hA (And.intro @hT @hF)))
  refine eS fun K1 hn1 hr1 he1 => ?_
  refine eO fun K2 hk2 => ?_
  refine tL F1 ?_
  refine hk2 _ ?_
  refine hn1 (some ([1, 2], none)) _ ?_
  refine eS fun K3 hn3 hr3 he3 => ?_
  refine eS fun K4 hn4 hr4 he4 => ?_
  refine eO fun K5 hk5 => ?_
  refine tC 2 F1 ?_
  refine tL F1 ?_
  refine hk5 _ ?_
  refine hn4 (some ([1, 2, 8, 9], none)) _ ?_
  refine eB fun K6 hn6 hx6 hr6 he6 => ?_
  refine eW (OpInv s 8) (8) (some ([1, 2, 8, 9], some ([0, 1], 2))) ([]) ?_ ?_
  · try refine lp0 ?_
    exact ⟨0, by omega, by omega, by simp only [eRds_refs, eRds_ren, if_true] <;> rfl⟩
  · intro k S1 hI
    obtain ⟨i, hi, rfl, rfl⟩ := hI
    have hcase : i = 8 ∨ (∃ x, s.rd[i]? = some (true, x) ∧ i < 8) := by
      rcases Nat.lt_or_ge i 8 with hh | hh
      · obtain ⟨x, hx⟩ := hall i hh
        exact .inr ⟨x, hx, hh⟩
      · exact .inl (by omega)
    intro K7 hn7 hr7 he7
    rcases hcase with rfl | ⟨x, hr, hh⟩
    · skip
      refine eS fun K8 hn8 hr8 he8 => ?_
      refine eO fun K9 hk9 => ?_
      refine tZ F1 ?_
      refine hk9 _ ?_
      refine hn8 (some ([1, 2, 8, 9, 10], none)) _ ?_
      refine eS fun K10 hn10 hr10 he10 => ?_
      refine eCf ?_
      refine he10 0 _ ?_
      refine he7 0 _ ?_
      refine hx6 _ ?_
      refine hn3 (some ([1, 2], none)) _ ?_
      refine eS fun K11 hn11 hr11 he11 => ?_
      refine eO fun K12 hk12 => ?_
      refine tC 1 F1 ?_
      refine tC 1 F1 ?_
      refine tL F1 ?_
      refine hk12 _ ?_
      refine hn11 (some ([2, 3, 4], none)) _ ?_
      exact sf1 F1
    · skip
      have w2 : (i : Int) < 8 := by omega
      have w3 : IntKind.i64.wrap ((i : Int) + 1) = ((i + 1 : Nat) : Int) := by rw [IntKind.wrap_i64]; omega
      obtain ⟨g1, g2, g3⟩ := eRds_get hr
      have F2 := And.intro F1 (And.intro @w2 (And.intro @w3 @g3))
      refine eS fun K13 hn13 hr13 he13 => ?_
      refine eO fun K14 hk14 => ?_
      refine tZ F2 ?_
      refine hk14 _ ?_
      refine hn13 (some ([1, 2, 8, 9, 10], none)) _ ?_
      refine eS fun K15 hn15 hr15 he15 => ?_
      refine eCt ?_
      refine hn15 (some ([1, 2, 8, 9], none)) _ ?_
      refine eS fun K16 hn16 hr16 he16 => ?_
      refine eB fun K17 hn17 hx17 hr17 he17 => ?_
      refine eS fun K18 hn18 hr18 he18 => ?_
      refine eO fun K19 hk19 => ?_
      refine tS 1 F2 ?_
      refine tS 1 F2 ?_
      refine Or.inl ⟨_, gen_rd hh, ?_⟩
      refine tZ F2 ?_
      refine hk19 _ ?_
      refine hn18 (some ([1, 2, 5, 6, 8, 9], none)) _ ?_
      refine eS fun K20 hn20 hr20 he20 => ?_
      refine eO fun K21 hk21 => ?_
      refine tC 2 F2 ?_
      refine tL F2 ?_
      refine hk21 _ ?_
      refine hn20 (some ([1, 2, 5, 8, 9, 15], none)) _ ?_
      refine eCf ?_
      refine hn17 _ ?_
      refine hn16 (some ([1, 2, 8, 9], none)) _ ?_
      refine eO fun K22 hk22 => ?_
      refine tC 1 F2 ?_
      refine tL F2 ?_
      refine hk22 _ ?_
      refine hn7 (8 - (i + 1)) (some ([1, 2, 8, 9], some ([0, 1], 2))) _ ?_ ?_
      all_goals try refine lp0 ?_
      · omega
      · exact ⟨i + 1, by omega, rfl, by simp only [eRds_refs, eRds_ren, if_true] <;> rfl⟩
theorem ok_snOpen {s : SnM} (h : SnOk s) {m : Nat} {x : Int} (hm : s.rd[m]? = some (false, x)) (hlo : ∀ j, j < m → ∃ x, s.rd[j]? = some (true, x)) : Ok 6 [shSn s] (.tup [shSn (openM s m), sI ((m + 1 : Nat) : Int), sI 0]) := by
  have h8 := h.rd
  have hm8 := (List.getElem?_eq_some_iff.1 hm).1
  refine ok_of_tr Try.func6 tr_snOpen rfl ?_
  have hL : (eRds s.rd).length = 16 := by rw [eRds_len, h.rd]
  have hO := eRds_one s.rd
  have hA := fun S => eRds_arg S s.rd
  have hT := eRds_take h.rd
  have hF := fun S => eRds_frz S s.rd
  have w4 : (eRds (s.rd.set m (true, s.now))).length = 16 := by rw [eRds_len, List.length_set, h.rd]
  have w5 : List.take (4 + m * 2) (eSn s) ++ [sB true, sI s.now] ++ List.drop (4 + m * 2) (Sh.mp 44 (mLists s.lists) :: Sh.mp 44 (mWrites s.writes) :: eRds s.rd) = eSn (openM s m) := by
    rw [show 4 + m * 2 = m * 2 + 4 by omega]
    unfold openM
    simp only [eSn]
    rw [eRds_set _ (by omega)]
    rfl
  have hO' := eRds_one (s.rd.set m (true, s.now))
  have hA' := fun S => eRds_arg S (s.rd.set m (true, s.now))
  have hT' := eRds_take (l := s.rd.set m (true, s.now)) (by rw [List.length_set, h.rd])
  have hF' := fun S => eRds_frz S (s.rd.set m (true, s.now))
  unfold openM at w5 ⊢
  unfold evFn sc_snOpen rv_snOpen
  have F1 := And.intro @hL (And.intro @hO (And.intro @hA (And.intro @hT @hF)))
  refine eS fun K1 hn1 hr1 he1 => ?_
  refine eO fun K2 hk2 => ?_
  refine tL F1 ?_
  refine hk2 _ ?_
  refine hn1 (some ([1, 2], none)) _ ?_
  refine eS fun K3 hn3 hr3 he3 => ?_
  refine eS fun K4 hn4 hr4 he4 => ?_
  refine eO fun K5 hk5 => ?_
  refine tC 2 F1 ?_
  refine tL F1 ?_
  refine hk5 _ ?_
  refine hn4 (some ([1, 2, 8, 9], none)) _ ?_
  refine eB fun K6 hn6 hx6 hr6 he6 => ?_
  refine eW (OpInv s m) (8) (some ([1, 2, 8, 9], some ([0, 1], 2))) ([]) ?_ ?_
  · try refine lp0 ?_
    exact ⟨0, by omega, by omega, by simp only [eRds_refs, eRds_ren, if_true] <;> rfl⟩
  · intro k S1 hI
    obtain ⟨i, hi, rfl, rfl⟩ := hI
    have hcase : i = m ∨ (∃ x, s.rd[i]? = some (true, x) ∧ i < m) := by
      rcases Nat.lt_or_ge i m with hh | hh
      · obtain ⟨x, hx⟩ := hlo i hh
        exact .inr ⟨x, hx, hh⟩
      · exact .inl (by omega)
    intro K7 hn7 hr7 he7
    rcases hcase with rfl | ⟨x, hr, hh⟩
    · skip
      have w2 : (i : Int) < 8 := by omega
      have w3 : IntKind.i64.wrap ((i : Int) + 1) = ((i + 1 : Nat) : Int) := by rw [IntKind.wrap_i64]; omega
      obtain ⟨g1, g2, g3⟩ := eRds_get hm
      have F2 := And.intro F1 (And.intro @w2 (And.intro @w3 (And.intro @g3 (And.intro @w5 (And.intro @w4 (And.intro @hO' (And.intro @hA' (And.intro @hT' @hF'))))))))
      refine eS fun K8 hn8 hr8 he8 => ?_
      refine eO fun K9 hk9 => ?_
      refine tZ F2 ?_
      refine hk9 _ ?_
      refine hn8 (some ([1, 2, 8, 9, 10], none)) _ ?_
      refine eS fun K10 hn10 hr10 he10 => ?_
      refine eCt ?_
      refine hn10 (some ([1, 2, 8, 9], none)) _ ?_
      refine eS fun K11 hn11 hr11 he11 => ?_
      refine eB fun K12 hn12 hx12 hr12 he12 => ?_
      refine eS fun K13 hn13 hr13 he13 => ?_
      refine eO fun K14 hk14 => ?_
      refine tS 1 F2 ?_
      refine tS 1 F2 ?_
      refine Or.inl ⟨_, gen_rd (by omega), ?_⟩
      refine tZ F2 ?_
      refine hk14 _ ?_
      refine hn13 (some ([1, 2, 5, 6, 8, 9], none)) _ ?_
      refine eS fun K15 hn15 hr15 he15 => ?_
      refine eO fun K16 hk16 => ?_
      refine tC 2 F2 ?_
      refine tL F2 ?_
      refine hk16 _ ?_
      refine hn15 (some ([1, 2, 5, 8, 9, 15], none)) _ ?_
      refine eCt ?_
      refine eS fun K17 hn17 hr17 he17 => ?_
      refine eO fun K18 hk18 => ?_
      refine tC 3 F2 ?_
      refine tC 3 F2 ?_
      refine tZ F2 ?_
      refine hk18 _ ?_
      refine hn17 (some ([1, 2, 5], none)) _ ?_
      refine eS fun K19 hn19 hr19 he19 => ?_
      refine eO fun K20 hk20 => ?_
      refine tC 1 F2 ?_
      refine tC 2 F2 ?_
      refine tC 1 F2 ?_
      refine tL F2 ?_
      refine hk20 _ ?_
      refine hn19 (some ([2, 3, 4], none)) _ ?_
      refine hr12 _ ?_
      refine hr11 _ ?_
      refine hr7 _ ?_
      refine hr6 _ ?_
      refine hr3 _ ?_
      exact sf1 F2
    · skip
      have w2 : (i : Int) < 8 := by omega
      have w3 : IntKind.i64.wrap ((i : Int) + 1) = ((i + 1 : Nat) : Int) := by rw [IntKind.wrap_i64]; omega
      obtain ⟨g1, g2, g3⟩ := eRds_get hr
      have F3 := And.intro F1 (And.intro @w2 (And.intro @w3 @g3))
      refine eS fun K21 hn21 hr21 he21 => ?_
      refine eO fun K22 hk22 => ?_
      refine tZ F3 ?_
      refine hk22 _ ?_
      refine hn21 (some ([1, 2, 8, 9, 10], none)) _ ?_
      refine eS fun K23 hn23 hr23 he23 => ?_
      refine eCt ?_
      refine hn23 (some ([1, 2, 8, 9], none)) _ ?_
      refine eS fun K24 hn24 hr24 he24 => ?_
      refine eB fun K25 hn25 hx25 hr25 he25 => ?_
      refine eS fun K26 hn26 hr26 he26 => ?_
      refine eO fun K27 hk27 => ?_
      refine tS 1 F3 ?_
      refine tS 1 F3 ?_
      refine Or.inl ⟨_, gen_rd (by omega), ?_⟩
      refine tZ F3 ?_
      refine hk27 _ ?_
      refine hn26 (some ([1, 2, 5, 6, 8, 9], none)) _ ?_
      refine eS fun K28 hn28 hr28 he28 => ?_
      refine eO fun K29 hk29 => ?_
      refine tC 2 F3 ?_
      refine tL F3 ?_
      refine hk29 _ ?_
      refine hn28 (some ([1, 2, 5, 8, 9, 15], none)) _ ?_
      refine eCf ?_
      refine hn25 _ ?_
      refine hn24 (some ([1, 2, 8, 9], none)) _ ?_
      refine eO fun K30 hk30 => ?_
      refine tC 1 F3 ?_
      refine tL F3 ?_
      refine hk30 _ ?_
      refine hn7 (8 - (i + 1)) (some ([1, 2, 8, 9], some ([0, 1], 2))) _ ?_ ?_
      all_goals try refine lp0 ?_
      · omega
      · exact ⟨i + 1, by omega, rfl, by simp only [eRds_refs, eRds_ren, if_true] <;> rfl⟩
abbrev eZ (x : Int) : List Sh := [sI x]
def openS (l : List (Bool × Int)) : List Int := (l.filter (·.1)).map (·.2)
theorem openS_snoc (l : List (Bool × Int)) (r : Bool × Int) : openS (l ++ [r]) = if r.1 then openS l ++ [r.2] else openS l := by
  unfold openS
  obtain ⟨b, x⟩ := r
  cases b <;> simp
theorem openS_len (l : List (Bool × Int)) : (openS l).length ≤ l.length := by
  unfold openS
  rw [List.length_map]; exact List.length_filter_le _ _
def RdInv (s : SnM) (k : Nat) (S : St) : Prop :=
  ∃ i : Nat, i ≤ 8 ∧ k = 8 - i ∧ S = ⟨[(3, .own 0), (7, .agg (eRds s.rd)), (8, sI i)], [(0, .row 2 1 ((openS (s.rd.take i)).map eZ))], 1⟩
theorem ok_snReaders {s : SnM} (h : SnOk s) : Ok 29 [shSn s] (.sl 1 0 ((openS s.rd).map eZ)) := by
  have h8 := h.rd
  refine ok_of_tr Try.func29 tr_snReaders rfl ?_
  have hL : (eRds s.rd).length = 16 := by rw [eRds_len, h.rd]
  have hO := eRds_one s.rd
  have hA := fun S => eRds_arg S s.rd
  have hT := eRds_take h.rd
  have hF := fun S => eRds_frz S s.rd
  unfold evFn sc_snReaders rv_snReaders
  have F1 := And.intro @hL (And.intro @hO (And.intro @hA (And.intro @hT @hF)))
  refine eS fun K1 hn1 hr1 he1 => ?_
  refine eO fun K2 hk2 => ?_
  refine tL F1 ?_
  refine hk2 _ ?_
  refine hn1 (some ([1], none)) _ ?_
  refine eS fun K3 hn3 hr3 he3 => ?_
  refine eO fun K4 hk4 => ?_
  refine tL F1 ?_
  refine hk4 _ ?_
  refine hn3 (some ([1, 3], none)) _ ?_
  refine eS fun K5 hn5 hr5 he5 => ?_
  refine eS fun K6 hn6 hr6 he6 => ?_
  refine eO fun K7 hk7 => ?_
  refine tC 2 F1 ?_
  refine tL F1 ?_
  refine hk7 _ ?_
  refine hn6 (some ([3, 7, 8], none)) _ ?_
  refine eB fun K8 hn8 hx8 hr8 he8 => ?_
  refine eW (RdInv s) (8) (some ([3, 7, 8], some ([1], 1))) ([.slot 3 (some 2) 1]) ?_ ?_
  · try refine lp0 ?_
    exact ⟨0, by omega, by omega, by simp only [eRds_refs, eRds_ren, if_true]; rfl⟩
  · intro k S1 hI
    obtain ⟨i, hi, rfl, rfl⟩ := hI
    have hcase : i = 8 ∨ (∃ r, s.rd[i]? = some r ∧ i < 8 ∧ s.rd.take (i + 1) = s.rd.take i ++ [r]) := by
      rcases Nat.lt_or_ge i 8 with hh | hh
      · refine .inr ⟨_, List.getElem?_eq_getElem (by omega), hh, ?_⟩
        rw [List.take_add_one, List.getElem?_eq_getElem (by omega)]; rfl
      · exact .inl (by omega)
    intro K9 hn9 hr9 he9
    rcases hcase with rfl | ⟨⟨_ | _, x⟩, hr, hh, ht⟩
    · skip
      have e1 : s.rd.take 8 = s.rd := List.take_of_length_le (by omega)
      have F2 := And.intro F1 @e1
      refine eS fun K10 hn10 hr10 he10 => ?_
      refine eO fun K11 hk11 => ?_
      refine tZ F2 ?_
      refine hk11 _ ?_
      refine hn10 (some ([3, 7, 8, 9], none)) _ ?_
      refine eS fun K12 hn12 hr12 he12 => ?_
      refine eCf ?_
      refine he12 0 _ ?_
      refine he9 0 _ ?_
      refine hx8 _ ?_
      refine hn5 (some ([3], none)) _ ?_
      refine eS fun K13 hn13 hr13 he13 => ?_
      refine eO fun K14 hk14 => ?_
      refine tL F2 ?_
      refine hk14 _ ?_
      refine hn13 (some ([2], none)) _ ?_
      exact sf1 F2
    · skip
      have w2 : (i : Int) < 8 := by omega
      have w3 : IntKind.i64.wrap ((i : Int) + 1) = ((i + 1 : Nat) : Int) := by rw [IntKind.wrap_i64]; omega
      obtain ⟨g1, g2, g3⟩ := eRds_get hr
      have F3 := And.intro F1 (And.intro @w2 (And.intro @w3 @g3))
      refine eS fun K15 hn15 hr15 he15 => ?_
      refine eO fun K16 hk16 => ?_
      refine tZ F3 ?_
      refine hk16 _ ?_
      refine hn15 (some ([3, 7, 8, 9], none)) _ ?_
      refine eS fun K17 hn17 hr17 he17 => ?_
      refine eCt ?_
      refine hn17 (some ([3, 7, 8], none)) _ ?_
      refine eS fun K18 hn18 hr18 he18 => ?_
      refine eB fun K19 hn19 hx19 hr19 he19 => ?_
      refine eS fun K20 hn20 hr20 he20 => ?_
      refine eO fun K21 hk21 => ?_
      refine tS 1 F3 ?_
      refine Or.inl ⟨_, gen_rd (by omega), ?_⟩
      refine tZ F3 ?_
      refine hk21 _ ?_
      refine hn20 (some ([3, 5, 7, 8], none)) _ ?_
      refine eS fun K22 hn22 hr22 he22 => ?_
      refine eO fun K23 hk23 => ?_
      refine tZ F3 ?_
      refine hk23 _ ?_
      refine hn22 (some ([3, 5, 7, 8, 12], none)) _ ?_
      refine eCf ?_
      refine hn19 _ ?_
      refine hn18 (some ([3, 7, 8], none)) _ ?_
      refine eO fun K24 hk24 => ?_
      refine tC 1 F3 ?_
      refine tL F3 ?_
      refine hk24 _ ?_
      refine hn9 (8 - (i + 1)) (some ([3, 7, 8], some ([0], 1))) _ ?_ ?_
      all_goals try refine lp0 ?_
      · omega
      · refine ⟨i + 1, by omega, rfl, ?_⟩
        rw [ht, openS_snoc]
        simp only [eRds_refs, eRds_ren, if_true] <;> rfl
    · skip
      have w2 : (i : Int) < 8 := by omega
      have w3 : IntKind.i64.wrap ((i : Int) + 1) = ((i + 1 : Nat) : Int) := by rw [IntKind.wrap_i64]; omega
      obtain ⟨g1, g2, g3⟩ := eRds_get hr
      have w4 := openS_len (s.rd.take i)
      rw [List.length_take] at w4
      have F4 := And.intro F1 (And.intro @w2 (And.intro @w3 @g3))
      refine eS fun K25 hn25 hr25 he25 => ?_
      refine eO fun K26 hk26 => ?_
      refine tZ F4 ?_
      refine hk26 _ ?_
      refine hn25 (some ([3, 7, 8, 9], none)) _ ?_
      refine eS fun K27 hn27 hr27 he27 => ?_
      refine eCt ?_
      refine hn27 (some ([3, 7, 8], none)) _ ?_
      refine eS fun K28 hn28 hr28 he28 => ?_
      refine eB fun K29 hn29 hx29 hr29 he29 => ?_
      refine eS fun K30 hn30 hr30 he30 => ?_
      refine eO fun K31 hk31 => ?_
      refine tS 1 F4 ?_
      refine Or.inl ⟨_, gen_rd (by omega), ?_⟩
      refine tZ F4 ?_
      refine hk31 _ ?_
      refine hn30 (some ([3, 5, 7, 8], none)) _ ?_
      refine eS fun K32 hn32 hr32 he32 => ?_
      refine eO fun K33 hk33 => ?_
      refine tZ F4 ?_
      refine hk33 _ ?_
      refine hn32 (some ([3, 5, 7, 8, 12], none)) _ ?_
      refine eCt ?_
      refine eO fun K34 hk34 => ?_
      refine tC 3 F4 ?_
      refine tC 1 F4 ?_
      refine tC 1 F4 ?_
      refine tL F4 ?_
      refine hk34 _ ?_
      refine hn29 _ ?_
      refine hn28 (some ([3, 7, 8], none)) _ ?_
      refine eO fun K35 hk35 => ?_
      refine tC 1 F4 ?_
      refine tL F4 ?_
      refine hk35 _ ?_
      refine hn9 (8 - (i + 1)) (some ([3, 7, 8], some ([2], 1))) _ ?_ ?_
      all_goals try refine lp0 ?_
      · omega
      · refine ⟨i + 1, by omega, rfl, ?_⟩
        rw [ht, openS_snoc]
        simp only [eRds_refs, eRds_ren, if_true, List.map_append] <;> rfl
end Go.Proofs.Ytijblpkdfmkcfaa
