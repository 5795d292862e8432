/-
  Layer 13 by shadows: the announced eras; the example of the chapter.
-/
import Derived.Test.YtkbgdhomdbolnaaGreatDoorK13c
import Derived.Test.YtkbgdhomdbolnaaGreatDoorK13d
import Derived.Test.YtkbgdhomdbolnaaGreatDoorMC
namespace Go.Proofs.YtkbgdhomdbolnaaGreatDoor
set_option linter.unusedSimpArgs false
set_option linter.unusedVariables false
open Go.RowKit Go.Maps

def annAt (l : LayV) (ws : List WordV) (i : Nat) : Int := ((ws[(atL l 1 i 0).toNat]?).getD ⟨0, 0, 0⟩).val
def annM (l : LayV) (ws : List WordV) : List Int := (List.range l.threads.toNat).map (annAt l ws)
theorem ann_nat {l : LayV} (h : checkL l = 0) {i : Nat} (hi : (i : Int) < l.threads) : ∃ b : Nat, atL l 1 i 0 = (b : Int) ∧ (b : Int) < fromL l 7 ∧ Ok 41 [.agg (eLay l), sI ((i : Int) + 1)] (sI b) := by
  obtain ⟨c1, c2⟩ := at_lt h (p := 1) (by omega) (i := i) (more := 0) ⟨by omega, hi⟩ ⟨by omega, by show (0 : Int) < 8; omega⟩
  have ht := (checkL_zero h).1.1
  have e : ((atL l 1 i 0).toNat : Int) = atL l 1 i 0 := Int.toNat_of_nonneg c1
  refine ⟨(atL l 1 i 0).toNat, e.symm, by omega, ?_⟩
  have := ok_layAnn l ((i : Int) + 1) (by omega)
  rwa [show IntKind.i64.wrap ((i : Int) + 1 - 1) = (i : Int) by rw [IntKind.wrap_i64]; omega, ← e] at this
def EanInv (l : LayV) (g : Nat) (ws : List WordV) (k : Nat) (S : St) : Prop :=
  ∃ i : Nat, (i : Int) ≤ l.threads ∧ k = l.threads.toNat - i ∧ S = ⟨[(1, .sl 3 g (ws.map eWord)), (2, .ptr 0 0 0), (5, .own 1), (6, sI ((i : Int) + 1))], [(0, .box 23 (eLay l)), (1, .row 2 1 (((List.range i).map (annAt l ws)).map eN1))], 2⟩
set_option maxHeartbeats 4000000 in
theorem ok_eraAnnounced (l : LayV) (g : Nat) (ws : List WordV) (h : checkL l = 0) (hw : fromL l 7 ≤ (ws.length : Int)) : Ok 47 [.agg (eLay l), .sl 3 g (ws.map eWord)] (.sl 1 0 ((annM l ws).map eN1)) := by
  refine ok_of_tr Tryz.func47 tr_eraAnnounced rfl ?_
  have k0 := ok_layCheck l
  rw [h] at k0
  have k1 := ok_laySize l
  unfold sizeofL at k1
  rw [if_pos h] at k1
  have hn : ¬ (ws.length : Int) < fromL l 7 := by omega
  have ht := (checkL_zero h).1.1
  have k2 := fun i hi => ann_nat h (i := i) hi
  unfold annM
  generalize fromL l 7 = N at *
  unfold evFn sc_eraAnnounced rv_eraAnnounced
  have F1 := @hn
  refine eS fun K1 hn1 hr1 he1 => ?_
  refine eO fun K2 hk2 => ?_
  refine tL F1 ?_
  refine hk2 _ ?_
  refine hn1 (some ([1, 2], none)) _ ?_
  refine eS fun K3 hn3 hr3 he3 => ?_
  refine eS fun K4 hn4 hr4 he4 => ?_
  refine eO fun K5 hk5 => ?_
  refine tC 1 F1 ?_
  refine tS 1 F1 ?_
  refine Or.inl (Or.inl ⟨_, k0, ?_⟩)
  refine tC 1 F1 ?_
  refine tC 4 F1 ?_
  refine tS 1 F1 ?_
  refine Or.inl (Or.inl ⟨_, k1, ?_⟩)
  refine tC 1 F1 ?_
  refine tL F1 ?_
  refine hk5 _ ?_
  refine hn4 (some ([1, 2, 16], none)) _ ?_
  refine eCf ?_
  refine hn3 (some ([1, 2], none)) _ ?_
  refine eS fun K6 hn6 hr6 he6 => ?_
  refine eO fun K7 hk7 => ?_
  refine tL F1 ?_
  refine hk7 _ ?_
  refine hn6 (some ([1, 2, 5], none)) _ ?_
  refine eS fun K8 hn8 hr8 he8 => ?_
  refine eS fun K9 hn9 hr9 he9 => ?_
  refine eO fun K10 hk10 => ?_
  refine tL F1 ?_
  refine hk10 _ ?_
  refine hn9 (some ([1, 2, 5, 6], none)) _ ?_
  refine eB fun K11 hn11 hx11 hr11 he11 => ?_
  refine eW (EanInv l g ws) (l.threads.toNat) (some ([1, 2, 5, 6], some ([0, 1], 2))) ([.slot 5 (some 2) 1]) ?_ ?_
  · try refine lp0 ?_
    exact ⟨0, by omega, by omega, by rfl⟩
  · intro k S1 hI
    obtain ⟨i, hi, rfl, rfl⟩ := hI
    have hcase : (i : Int) = l.threads ∨ (i : Int) < l.threads := by omega
    intro K12 hn12 hr12 he12
    rcases hcase with hcc | hcc
    · skip
      obtain rfl : i = l.threads.toNat := by omega
      have w2 : ¬ (l.threads.toNat : Int) + 1 ≤ l.threads := by omega
      have F2 := And.intro F1 @w2
      refine eS fun K13 hn13 hr13 he13 => ?_
      refine eS fun K14 hn14 hr14 he14 => ?_
      refine eO fun K15 hk15 => ?_
      refine tC 3 F2 ?_
      refine tZ F2 ?_
      refine hk15 _ ?_
      refine hn14 (some ([1, 2, 5, 6, 20], none)) _ ?_
      refine eCf ?_
      refine he13 0 _ ?_
      refine he12 0 _ ?_
      refine hx11 _ ?_
      refine hn8 (some ([5], none)) _ ?_
      refine eS fun K16 hn16 hr16 he16 => ?_
      refine eO fun K17 hk17 => ?_
      refine tL F2 ?_
      refine hk17 _ ?_
      refine hn16 (some ([4], none)) _ ?_
      exact sf1 F2
    · skip
      have w2 : (i : Int) + 1 ≤ l.threads := by omega
      have w3 : IntKind.i64.wrap ((i : Int) + 1 + 1) = ((i + 1 : Nat) : Int) + 1 := by rw [IntKind.wrap_i64]; omega
      obtain ⟨b, hb1, hb2, kb⟩ := k2 i hcc
      have hb3 : b < ws.length := by omega
      have hb4 : (b : Int) < (ws.length : Int) := by omega
      obtain ⟨w, hwb⟩ : ∃ w, ws[b]? = some w := ⟨_, List.getElem?_eq_getElem hb3⟩
      have ha : annAt l ws i = w.val := by unfold annAt; rw [hb1, Int.toNat_natCast, hwb]; rfl
      have hs : ((List.range (i + 1)).map (annAt l ws)).map eN1 = ((List.range i).map (annAt l ws)).map eN1 ++ [[sI w.val]] := by
        rw [List.range_succ, List.map_append, List.map_append, List.map_cons, ha]; rfl
      have w4 : ((List.range i).map (annAt l ws)).length = i := by simp
      have w5 : (i + 1) * 8 ≤ 140737488355328 := by omega
      have w6 : (List.range i).length = i := by simp
      have F3 := And.intro F1 (And.intro @w2 (And.intro @w3 (And.intro @w4 (And.intro @w5 (And.intro @w6 (And.intro @hb3 (And.intro @hb4 @hwb)))))))
      refine eS fun K18 hn18 hr18 he18 => ?_
      refine eS fun K19 hn19 hr19 he19 => ?_
      refine eO fun K20 hk20 => ?_
      refine tC 3 F3 ?_
      refine tZ F3 ?_
      refine hk20 _ ?_
      refine hn19 (some ([1, 2, 5, 6, 20], none)) _ ?_
      refine eCt ?_
      refine hn18 (some ([1, 2, 5, 6], none)) _ ?_
      refine eS fun K21 hn21 hr21 he21 => ?_
      refine eB fun K22 hn22 hx22 hr22 he22 => ?_
      refine eO fun K23 hk23 => ?_
      refine tC 3 F3 ?_
      refine tS 1 F3 ?_
      refine tS 1 F3 ?_
      refine Or.inl (Or.inl ⟨_, kb, ?_⟩)
      refine tC 1 F3 ?_
      refine tC 2 F3 ?_
      refine tC 1 F3 ?_
      refine tC 1 F3 ?_
      refine tL F3 ?_
      refine hk23 _ ?_
      refine hn22 _ ?_
      refine hn21 (some ([1, 2, 5, 6], none)) _ ?_
      refine eO fun K24 hk24 => ?_
      refine tC 2 F3 ?_
      refine tL F3 ?_
      refine hk24 _ ?_
      refine hn12 (l.threads.toNat - (i + 1)) (some ([1, 2, 5, 6], some ([0, 2], 2))) _ ?_ ?_
      all_goals try refine lp0 ?_
      · omega
      · exact ⟨i + 1, by omega, by omega, by rw [hs]⟩
/-! ### The example -/
noncomputable def wA : WorldM era := runW (worldE 0 2 1) [⟨0, 1, 0⟩, ⟨0, 2, 0⟩, ⟨0, 2, 0⟩]
noncomputable def wB : WorldM era × Bool := aloneM wA 1 9
noncomputable def tE (i : Nat) : TaskM era := (wB.1.tasks[i]?).getD (zTask era)
noncomputable def sE (i : Nat) : EraV := (tE i).code.getD ⟨0, 0, 0, 0, false, false, .enter⟩
theorem aw_done : wB.2 = true := by kernel_rfl
theorem aw_len : wB.1.tasks.length = 3 := by kernel_rfl
theorem aw_t0 : wB.1.tasks[0]? = some (tE 0) := by kernel_rfl
theorem aw_t1 : wB.1.tasks[1]? = some (tE 1) := by kernel_rfl
theorem aw_c0 : (tE 0).code = some (sE 0) := by kernel_rfl
theorem aw_c1 : (tE 1).code = some (sE 1) := by kernel_rfl
theorem aw_s0 : (sE 0).over = true ∧ (sE 0).time = 2 := ⟨by kernel_rfl, by kernel_rfl⟩
theorem aw_s1 : (sE 1).over = true ∧ (sE 1).time = 2 := ⟨by kernel_rfl, by kernel_rfl⟩
theorem aw_words : (wordsM wB.1.m).length = 376 := by kernel_rfl
theorem aw_ann : annM planL (wordsM wB.1.m) = [2, 0, 0] := by kernel_rfl
end Go.Proofs.YtkbgdhomdbolnaaGreatDoor
