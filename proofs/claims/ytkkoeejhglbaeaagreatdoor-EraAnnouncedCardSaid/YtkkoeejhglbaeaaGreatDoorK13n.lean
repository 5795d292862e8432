/-
  EraAnnounced by shadows.
-/
import Derived.Test.YtkkoeejhglbaeaaGreatDoorK13f
import Derived.Test.YtkkoeejhglbaeaaGreatDoorScEraAnnounced
import Derived.Test.YtkkoeejhglbaeaaGreatDoorMC
namespace Go.Proofs.YtkkoeejhglbaeaaGreatDoor
set_option linter.unusedSimpArgs false
set_option linter.unusedVariables false
open Go.RowKit Go.Maps

def LaInv (l : LayV) (g : Nat) (ws : List WordV) (k : Nat) (S : St) : Prop :=
  ∃ i : Nat, (i : Int) ≤ l.threads ∧ k = l.threads.toNat - i ∧ S = ⟨[(1, .sl 3 g (ws.map eWord)), (2, .ptr 0 0 0), (5, .sl 1 0 ((annM l ws).map eN1)), (6, sI ((i : Int) + 1))], [(0, .box 25 (eLay l))], 1⟩
set_option maxHeartbeats 4000000 in
theorem ok_EraAnnounced (l : LayV) (g : Nat) (ws : List WordV) : Ok 7 [.agg (eLay l), .sl 3 g (ws.map eWord)] (sB true) := by
  refine ok_of_tr Tryz.func7 tr_EraAnnounced rfl ?_
  have ka := ok_l13awake
  by_cases hg : 4096 < (ws.length : Int)
  · skip
    unfold evFn sc_EraAnnounced rv_EraAnnounced
    have F1 := @hg
    refine eS fun K1 hn1 hr1 he1 => ?_
    refine eO fun K2 hk2 => ?_
    refine tL F1 ?_
    refine hk2 _ ?_
    refine hn1 (some ([1, 2], none)) _ ?_
    refine eS fun K3 hn3 hr3 he3 => ?_
    refine eS fun K4 hn4 hr4 he4 => ?_
    refine eO fun K5 hk5 => ?_
    refine tS 1 F1 ?_
    refine Or.inl (Or.inl ⟨_, ka, ?_⟩)
    refine tL F1 ?_
    refine hk5 _ ?_
    refine hn4 (some ([1, 2, 8], none)) _ ?_
    refine eCf ?_
    refine hn3 (some ([1, 2], none)) _ ?_
    refine eS fun K6 hn6 hr6 he6 => ?_
    refine eS fun K7 hn7 hr7 he7 => ?_
    refine eO fun K8 hk8 => ?_
    refine tZ F1 ?_
    refine hk8 _ ?_
    refine hn7 (some ([1, 2, 11], none)) _ ?_
    refine eCt ?_
    refine eS fun K9 hn9 hr9 he9 => ?_
    refine eO fun K10 hk10 => ?_
    refine tL F1 ?_
    refine hk10 _ ?_
    refine hn9 (some ([4], none)) _ ?_
    refine hr6 _ ?_
    exact sf1 F1
  have k2 := ok_layCheck l
  have k3 := ok_laySize l
  by_cases h : checkL l = 0
  case neg =>
    have k1 := no_eraAnnounced l g ws (.inl h)
    have d : (checkL l != 0) = true := by simpa using h
    generalize checkL l = e at k2 d
    unfold evFn sc_EraAnnounced rv_EraAnnounced
    have F1 := And.intro @hg @d
    refine eS fun K1 hn1 hr1 he1 => ?_
    refine eO fun K2 hk2 => ?_
    refine tL F1 ?_
    refine hk2 _ ?_
    refine hn1 (some ([1, 2], none)) _ ?_
    refine eS fun K3 hn3 hr3 he3 => ?_
    refine eS fun K4 hn4 hr4 he4 => ?_
    refine eO fun K5 hk5 => ?_
    refine tS 1 F1 ?_
    refine Or.inl (Or.inl ⟨_, ka, ?_⟩)
    refine tL F1 ?_
    refine hk5 _ ?_
    refine hn4 (some ([1, 2, 8], none)) _ ?_
    refine eCf ?_
    refine hn3 (some ([1, 2], none)) _ ?_
    refine eS fun K6 hn6 hr6 he6 => ?_
    refine eS fun K7 hn7 hr7 he7 => ?_
    refine eO fun K8 hk8 => ?_
    refine tZ F1 ?_
    refine hk8 _ ?_
    refine hn7 (some ([1, 2, 11], none)) _ ?_
    refine eCf ?_
    refine hn6 (some ([1, 2], none)) _ ?_
    refine eS fun K9 hn9 hr9 he9 => ?_
    refine eO fun K10 hk10 => ?_
    refine tC 1 F1 ?_
    refine tS 1 F1 ?_
    refine tS 1 F1 ?_
    refine Or.inl (Or.inl ⟨_, k1, ?_⟩)
    refine tL F1 ?_
    refine hk10 _ ?_
    refine hn9 (some ([1, 2, 5], none)) _ ?_
    refine eS fun K11 hn11 hr11 he11 => ?_
    refine eS fun K12 hn12 hr12 he12 => ?_
    refine eO fun K13 hk13 => ?_
    refine tC 1 F1 ?_
    refine tS 1 F1 ?_
    refine Or.inl (Or.inl ⟨_, k2, ?_⟩)
    refine tC 1 F1 ?_
    refine tC 4 F1 ?_
    refine tS 1 F1 ?_
    skip
    refine tC 1 F1 ?_
    refine tL F1 ?_
    refine hk13 _ ?_
    refine hn12 (some ([1, 2, 5, 24], none)) _ ?_
    refine eCt ?_
    refine eS fun K14 hn14 hr14 he14 => ?_
    refine eOc ([.slot 5 none 1]) fun K15 hk15 => ?_
    refine tC 3 F1 ?_
    refine tL F1 ?_
    refine hk15 _ ?_
    refine hn14 (some ([4], none)) _ ?_
    refine hr11 _ ?_
    exact sf1 F1
  by_cases hn : (ws.length : Int) < sizeofL l
  · have k1 := no_eraAnnounced l g ws (.inr hn)
    rw [h] at k2
    generalize sizeofL l = N at k3 hn
    unfold evFn sc_EraAnnounced rv_EraAnnounced
    have F1 := And.intro @hg @hn
    refine eS fun K1 hn1 hr1 he1 => ?_
    refine eO fun K2 hk2 => ?_
    refine tL F1 ?_
    refine hk2 _ ?_
    refine hn1 (some ([1, 2], none)) _ ?_
    refine eS fun K3 hn3 hr3 he3 => ?_
    refine eS fun K4 hn4 hr4 he4 => ?_
    refine eO fun K5 hk5 => ?_
    refine tS 1 F1 ?_
    refine Or.inl (Or.inl ⟨_, ka, ?_⟩)
    refine tL F1 ?_
    refine hk5 _ ?_
    refine hn4 (some ([1, 2, 8], none)) _ ?_
    refine eCf ?_
    refine hn3 (some ([1, 2], none)) _ ?_
    refine eS fun K6 hn6 hr6 he6 => ?_
    refine eS fun K7 hn7 hr7 he7 => ?_
    refine eO fun K8 hk8 => ?_
    refine tZ F1 ?_
    refine hk8 _ ?_
    refine hn7 (some ([1, 2, 11], none)) _ ?_
    refine eCf ?_
    refine hn6 (some ([1, 2], none)) _ ?_
    refine eS fun K9 hn9 hr9 he9 => ?_
    refine eO fun K10 hk10 => ?_
    refine tC 1 F1 ?_
    refine tS 1 F1 ?_
    refine tS 1 F1 ?_
    refine Or.inl (Or.inl ⟨_, k1, ?_⟩)
    refine tL F1 ?_
    refine hk10 _ ?_
    refine hn9 (some ([1, 2, 5], none)) _ ?_
    refine eS fun K11 hn11 hr11 he11 => ?_
    refine eS fun K12 hn12 hr12 he12 => ?_
    refine eO fun K13 hk13 => ?_
    refine tC 1 F1 ?_
    refine tS 1 F1 ?_
    refine Or.inl (Or.inl ⟨_, k2, ?_⟩)
    refine tC 1 F1 ?_
    refine tC 4 F1 ?_
    refine tS 1 F1 ?_
    refine Or.inl (Or.inl ⟨_, k3, ?_⟩)
    refine tC 1 F1 ?_
    refine tL F1 ?_
    refine hk13 _ ?_
    refine hn12 (some ([1, 2, 5, 24], none)) _ ?_
    refine eCt ?_
    refine eS fun K14 hn14 hr14 he14 => ?_
    refine eOc ([.slot 5 none 1]) fun K15 hk15 => ?_
    refine tC 3 F1 ?_
    refine tL F1 ?_
    refine hk15 _ ?_
    refine hn14 (some ([4], none)) _ ?_
    refine hr11 _ ?_
    exact sf1 F1
  have e7 : sizeofL l = fromL l 7 := by unfold sizeofL; rw [if_pos h]
  rw [e7] at k3 hn
  have k1 := ok_eraAnnounced l g ws h (by omega)
  rw [h] at k2
  have ht := (checkL_zero h).1.1
  have k4 := fun i hi => ann_nat h (i := i) hi
  have hl : (annM l ws).length = l.threads.toNat := by unfold annM; simp
  have hl2 : ((annM l ws).length : Int) = l.threads := by omega
  generalize fromL l 7 = N at *
  unfold evFn sc_EraAnnounced rv_EraAnnounced
  have F1 := And.intro @hg (And.intro @hn @hl2)
  refine eS fun K1 hn1 hr1 he1 => ?_
  refine eO fun K2 hk2 => ?_
  refine tL F1 ?_
  refine hk2 _ ?_
  refine hn1 (some ([1, 2], none)) _ ?_
  refine eS fun K3 hn3 hr3 he3 => ?_
  refine eS fun K4 hn4 hr4 he4 => ?_
  refine eO fun K5 hk5 => ?_
  refine tS 1 F1 ?_
  refine Or.inl (Or.inl ⟨_, ka, ?_⟩)
  refine tL F1 ?_
  refine hk5 _ ?_
  refine hn4 (some ([1, 2, 8], none)) _ ?_
  refine eCf ?_
  refine hn3 (some ([1, 2], none)) _ ?_
  refine eS fun K6 hn6 hr6 he6 => ?_
  refine eS fun K7 hn7 hr7 he7 => ?_
  refine eO fun K8 hk8 => ?_
  refine tZ F1 ?_
  refine hk8 _ ?_
  refine hn7 (some ([1, 2, 11], none)) _ ?_
  refine eCf ?_
  refine hn6 (some ([1, 2], none)) _ ?_
  refine eS fun K9 hn9 hr9 he9 => ?_
  refine eO fun K10 hk10 => ?_
  refine tC 1 F1 ?_
  refine tS 1 F1 ?_
  refine tS 1 F1 ?_
  refine Or.inl (Or.inl ⟨_, k1, ?_⟩)
  refine tL F1 ?_
  refine hk10 _ ?_
  refine hn9 (some ([1, 2, 5], none)) _ ?_
  refine eS fun K11 hn11 hr11 he11 => ?_
  refine eS fun K12 hn12 hr12 he12 => ?_
  refine eO fun K13 hk13 => ?_
  refine tC 1 F1 ?_
  refine tS 1 F1 ?_
  refine Or.inl (Or.inl ⟨_, k2, ?_⟩)
  refine tC 1 F1 ?_
  refine tC 4 F1 ?_
  refine tS 1 F1 ?_
  refine Or.inl (Or.inl ⟨_, k3, ?_⟩)
  refine tC 1 F1 ?_
  refine tL F1 ?_
  refine hk13 _ ?_
  refine hn12 (some ([1, 2, 5, 24], none)) _ ?_
  refine eCf ?_
  refine hn11 (some ([1, 2, 5], none)) _ ?_
  refine eS fun K14 hn14 hr14 he14 => ?_
  refine eS fun K15 hn15 hr15 he15 => ?_
  refine eO fun K16 hk16 => ?_
  refine tC 4 F1 ?_
  refine tZ F1 ?_
  refine hk16 _ ?_
  refine hn15 (some ([1, 2, 5, 32], none)) _ ?_
  refine eCf ?_
  refine hn14 (some ([1, 2, 5], none)) _ ?_
  refine eS fun K17 hn17 hr17 he17 => ?_
  refine eS fun K18 hn18 hr18 he18 => ?_
  refine eO fun K19 hk19 => ?_
  refine tL F1 ?_
  refine hk19 _ ?_
  refine hn18 (some ([1, 2, 5, 6], none)) _ ?_
  refine eB fun K20 hn20 hx20 hr20 he20 => ?_
  refine eW (LaInv l g ws) (l.threads.toNat) (some ([1, 2, 5, 6], some ([0], 1))) ([]) ?_ ?_
  · try refine lp0 ?_
    exact ⟨0, by omega, by omega, by rfl⟩
  · intro k S1 hI
    obtain ⟨i, hi, rfl, rfl⟩ := hI
    have hcase : (i : Int) = l.threads ∨ (i : Int) < l.threads := by omega
    intro K21 hn21 hr21 he21
    rcases hcase with hcc | hcc
    · skip
      obtain rfl : i = l.threads.toNat := by omega
      have w2 : ¬ (l.threads.toNat : Int) + 1 ≤ l.threads := by omega
      have F2 := And.intro F1 @w2
      refine eS fun K22 hn22 hr22 he22 => ?_
      refine eS fun K23 hn23 hr23 he23 => ?_
      refine eO fun K24 hk24 => ?_
      refine tC 3 F2 ?_
      refine tZ F2 ?_
      refine hk24 _ ?_
      refine hn23 (some ([1, 2, 5, 6, 36], none)) _ ?_
      refine eCf ?_
      refine he22 0 _ ?_
      refine he21 0 _ ?_
      refine hx20 _ ?_
      refine hn17 (some ([], none)) _ ?_
      refine eS fun K25 hn25 hr25 he25 => ?_
      refine eO fun K26 hk26 => ?_
      refine tL F2 ?_
      refine hk26 _ ?_
      refine hn25 (some ([4], none)) _ ?_
      exact sf1 F2
    · skip
      have w2 : (i : Int) + 1 ≤ l.threads := by omega
      have w3 : IntKind.i64.wrap ((i : Int) + 1 + 1) = ((i + 1 : Nat) : Int) + 1 := by rw [IntKind.wrap_i64]; omega
      have w1 : IntKind.i64.wrap ((i : Int) + 1 - 1) = (i : Int) := by rw [IntKind.wrap_i64]; omega
      obtain ⟨b, hb1, hb2, kb⟩ := k4 i hcc
      have hb3 : b < ws.length := by omega
      have hb4 : (b : Int) < (ws.length : Int) := by omega
      obtain ⟨w, hwb⟩ : ∃ w, ws[b]? = some w := ⟨_, List.getElem?_eq_getElem hb3⟩
      have ha : (annM l ws)[i]? = some w.val := by
        unfold annM
        rw [List.getElem?_map, List.getElem?_range (by omega)]
        show some (annAt l ws i) = _
        unfold annAt; rw [hb1, Int.toNat_natCast, hwb]; rfl
      have hil : i < (annM l ws).length := by omega
      have hil2 : (i : Int) < ((annM l ws).length : Int) := by omega
      have F3 := And.intro F1 (And.intro @w1 (And.intro @w2 (And.intro @w3 (And.intro @ha (And.intro @hil (And.intro @hcc (And.intro @hb3 (And.intro @hb4 @hwb))))))))
      refine eS fun K27 hn27 hr27 he27 => ?_
      refine eS fun K28 hn28 hr28 he28 => ?_
      refine eO fun K29 hk29 => ?_
      refine tC 3 F3 ?_
      refine tZ F3 ?_
      refine hk29 _ ?_
      refine hn28 (some ([1, 2, 5, 6, 36], none)) _ ?_
      refine eCt ?_
      refine hn27 (some ([1, 2, 5, 6], none)) _ ?_
      refine eS fun K30 hn30 hr30 he30 => ?_
      refine eB fun K31 hn31 hx31 hr31 he31 => ?_
      refine eS fun K32 hn32 hr32 he32 => ?_
      refine eD [] (n := 12) fun K33 hk33 => ?_
      refine sq0 ?_
      refine fC 3 F3 ?_
      refine fC 1 F3 ?_
      refine fC 1 F3 ?_
      refine fC 2 F3 ?_
      refine fS 1 F3 ?_
      refine fS 1 F3 ?_
      refine ⟨_, kb, ?_⟩
      refine fC 1 F3 ?_
      refine fZ F3 ?_
      refine hk33 _ ?_
      refine sr0 ?_
      refine tZ F3 ?_
      refine hn32 (some ([1, 2, 5, 6, 51], none)) _ ?_
      refine eCf ?_
      refine hn31 _ ?_
      refine hn30 (some ([1, 2, 5, 6], none)) _ ?_
      refine eO fun K35 hk35 => ?_
      refine tC 2 F3 ?_
      refine tL F3 ?_
      refine hk35 _ ?_
      refine hn21 (l.threads.toNat - (i + 1)) (some ([1, 2, 5, 6], some ([0], 1))) _ ?_ ?_
      all_goals try refine lp0 ?_
      · omega
      · exact ⟨i + 1, by omega, by omega, rfl⟩
end Go.Proofs.YtkkoeejhglbaeaaGreatDoor
