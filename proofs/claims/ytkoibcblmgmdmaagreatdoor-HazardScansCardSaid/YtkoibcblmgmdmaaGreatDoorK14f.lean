/-
  Layer 14 by shadows: every law's first or last line, the example of the chapter.
-/
import Derived.Test.YtkoibcblmgmdmaaGreatDoorK14e
import Derived.Test.YtkoibcblmgmdmaaGreatDoorMC
namespace Go.Proofs.YtkoibcblmgmdmaaGreatDoor
set_option linter.unusedSimpArgs false
set_option linter.unusedVariables false
open Go.RowKit Go.Maps
def dA : Nat → DoH := dOf ⟨0, 0, 0⟩ ⟨2, 0, 0⟩ ⟨1, 0, 0⟩
noncomputable def hA : WorldM hz × Bool := aloneM (worldH 7 0 (hsOf 0 0 0) dA) 1 6
noncomputable def hB : WorldM hz × Bool := aloneM hA.1 2 6
noncomputable def tH (i : Nat) : TaskM hz := (hB.1.tasks[i]?).getD (zTask hz)
noncomputable def sH (i : Nat) : HzV := (tH i).code.getD (.clr ⟨0, 0⟩)
theorem ah_done : hA.2 = true := by kernel_rfl
theorem bh_done : hB.2 = true := by kernel_rfl
theorem bh_len : hB.1.tasks.length = 3 := by kernel_rfl
theorem bh_t0 : hB.1.tasks[0]? = some (tH 0) := by kernel_rfl
theorem bh_t1 : hB.1.tasks[1]? = some (tH 1) := by kernel_rfl
theorem bh_c0 : (tH 0).code = some (sH 0) := by kernel_rfl
theorem bh_c1 : (tH 1).code = some (sH 1) := by kernel_rfl
theorem bh_w : wordH (sH 0) = (⟨7, 0, 0⟩, true) := by kernel_rfl
theorem bh_h : heldH (sH 1) = some [7] := by kernel_rfl
theorem bh_v : (Wd hB.1.m (hazP 0)).val = 7 := by kernel_rfl
theorem doIn0 (k : Int) (h : 0 ≤ k ∧ k ≤ 255) : DoInH ⟨k, 0, 0⟩ := ⟨h, by show (0 : Int) ≤ 0 ∧ (0 : Int) ≤ 255; decide⟩
attribute [local irreducible] worldH machH firstM codesH hA hB tH sH
set_option maxHeartbeats 8000000 in
theorem ok_l14awake : Ok 12 [] (sB true) := by
  refine ok_of_tr Tryz.func12 tr_l14awake rfl ?_
  have hK := shK hz
  have hW := (worldH_ok 7 0 (hsOf 0 0 0) dA).1
  have k0 := ok_l14begun 7 0 0 0 0 ⟨0, 0, 0⟩ ⟨2, 0, 0⟩ ⟨1, 0, 0⟩ (doIn0 0 (by decide)) (doIn0 2 (by decide)) (doIn0 1 (by decide))
  change Ok _ [.agg [sI 7, sI 0], .agg [sI 0, sI 0, sI 0], .agg [s8h 0, s8h 0, sI 0, s8h 2, s8h 0, sI 0, s8h 1, s8h 0, sI 0]] (.tup [eWorld (worldH 7 0 (hsOf 0 0 0) dA), sB true]) at k0
  have k1 := ok_kAlone (worldH 7 0 (hsOf 0 0 0) dA) 1 6 hW (by decide)
  rw [show aloneM (worldH 7 0 (hsOf 0 0 0) dA) 1 6 = hA by unfold hA; rfl, ah_done] at k1
  have hAo : WorldOk hA.1 8 := by
    unfold hA aloneM
    split
    · exact worldOk_up hW (by omega)
    · exact goesOk 1 6 hW
  have k2 := ok_kAlone hA.1 2 6 hAo (by decide)
  rw [show aloneM hA.1 2 6 = hB by unfold hB; rfl, bh_done] at k2
  have hBo : WorldOk hB.1 14 := by
    unfold hB
    unfold aloneM
    split
    · exact worldOk_up hAo (by omega)
    · exact goesOk 2 6 hAo
  have k3 := ok_kCode (tH 0)
  rw [bh_c0] at k3
  have k4 := ok_hzWord (sH 0)
  rw [bh_w] at k4
  change Ok _ [eCode hz (some (sH 0))] _ at k4
  have k5 := ok_kCode (tH 1)
  rw [bh_c1] at k5
  have k6 := ok_hzHeld (sH 1) (fun x e => by
    have := bh_h
    rw [e] at this
    unfold heldH at this
    simp only at this
    split at this
    · rw [Option.some.inj this]; decide
    · cases this)
  rw [bh_h] at k6
  change Ok _ [eCode hz (some (sH 1))] _ at k6
  have k7 := ok_l14plan
  have k8 := ok_layHaz planH 1
  change Ok _ _ (sI (hazP 0)) at k8
  have k9 := ok_l14val hB.1 (hazP 0) hBo (by decide)
  rw [bh_v] at k9
  have y4 := bh_t0
  have y5 := bh_t1
  have y6 := bh_len
  generalize hB.1 = B at k2 k9 y4 y5 y6
  generalize tH 0 = T0 at k3 y4
  generalize tH 1 = T1 at k5 y5
  generalize sH 0 = S0 at k3 k4
  generalize sH 1 = S1 at k5 k6
  generalize hA.1 = A at k1 k2
  generalize worldH 7 0 (hsOf 0 0 0) dA = W0 at k0 k1
  generalize hazP 0 = p0 at k8 k9
  generalize planH = L at k7 k8
  have y7 : (B.tasks.length : Int) = 3 := by omega
  have y8 : 0 < B.tasks.length := by omega
  have y9 : 1 < B.tasks.length := by omega
  have z1 : (((1 : Nat) : Int) == 1) = true := by decide
  have z2 : (0 : Int) < ((1 : Nat) : Int) := by decide
  unfold evFn sc_l14awake rv_l14awake
  have F1 := And.intro @z1 (And.intro @z2 (And.intro @hK (And.intro @y4 (And.intro @y5 (And.intro @y7 (And.intro @y8 @y9))))))
  refine eS fun _ hn1 _ _ => ?_;refine eO fun _ hk2 => ?_;refine tL F1 ?_;refine hk2 _ ?_;refine hn1 (some ([], none)) _ ?_;refine eS fun _ hn3 _ _ => ?_;refine eO fun _ hk4 => ?_;refine tS 6 F1 ?_;refine tS 1 F1 ?_;refine Or.inl (Or.inl ⟨_, k0, ?_⟩);refine tC 5 F1 ?_;refine tL F1 ?_;refine hk4 _ ?_;refine hn3 (some ([1,2], none)) _ ?_;refine eS fun _ hn5 _ _ => ?_;refine eS fun _ hn6 _ _ => ?_;refine eO fun _ hk7 => ?_;refine tL F1 ?_;refine hk7 _ ?_;refine hn6 (some ([1,20], none)) _ ?_;refine eCf ?_;refine hn5 (some ([1], none)) _ ?_;refine eS fun _ hn8 _ _ => ?_;refine eO fun _ hk9 => ?_;refine tC 1 F1 ?_;refine tS 1 F1 ?_;refine Or.inl (Or.inl ⟨_, k1, ?_⟩);refine tC 4 F1 ?_;refine tL F1 ?_;refine hk9 _ ?_;refine hn8 (some ([1,3], none)) _ ?_;refine eS fun _ hn10 _ _ => ?_;refine eO fun _ hk11 => ?_;refine tC 1 F1 ?_;refine tS 1 F1 ?_;refine Or.inl (Or.inl ⟨_, k2, ?_⟩);refine tC 4 F1 ?_
  refine tL F1 ?_;refine hk11 _ ?_;refine hn10 (some ([1,3,4], none)) _ ?_;refine eS fun _ hn12 _ _ => ?_;refine eS fun _ hn13 _ _ => ?_;refine eO fun _ hk14 => ?_;refine tC 9 F1 ?_;refine tC 2 F1 ?_;refine tL F1 ?_;refine hk14 _ ?_;refine hn13 (some ([1,42], none)) _ ?_;refine eCf ?_;refine hn12 (some ([1], none)) _ ?_;refine eS fun _ hn15 _ _ => ?_;refine eO fun _ hk16 => ?_;refine tC 2 F1 ?_;refine tC 1 F1 ?_;refine tC 1 F1 ?_;refine tS 1 F1 ?_;refine Or.inl (Or.inl ⟨_, k3, ?_⟩);refine tS 1 F1 ?_;refine Or.inl (Or.inl ⟨_, k4, ?_⟩);refine tC 5 F1 ?_;refine tL F1 ?_;refine hk16 _ ?_;refine hn15 (some ([1,5,6], none)) _ ?_;refine eS fun _ hn17 _ _ => ?_;refine eO fun _ hk18 => ?_;refine tC 2 F1 ?_;refine tC 1 F1 ?_;refine tC 1 F1 ?_;refine tS 1 F1 ?_;refine Or.inl (Or.inl ⟨_, k5, ?_⟩);refine tS 1 F1 ?_;refine Or.inl (Or.inl ⟨_, k6, ?_⟩);refine tL F1 ?_;refine hk18 _ ?_;refine hn17 (some ([1,5,6,7,8], none)) _ ?_
  refine eS fun _ hn19 _ _ => ?_;refine eD [] (n := 10) fun _ hk20 => ?_;refine sq0 ?_;refine fC 4 F1 ?_;refine fC 1 F1 ?_;refine fC 3 F1 ?_;refine fS 1 F1 ?_;refine ⟨_, k7, ?_⟩;refine fL F1 ?_;refine ⟨_, k8, ?_⟩;refine hk20 _ ?_;refine sr0 ?_;refine tS 1 F1 ?_;refine Or.inl (Or.inl ⟨_, k9, ?_⟩);refine tC 1 F1 ?_;refine tC 8 F1 ?_;refine tC 4 F1 ?_;refine tC 1 F1 ?_;refine tC 1 F1 ?_;refine tL F1 ?_;refine hn19 (some ([0], none)) _ ?_
  exact sf1 F1
end Go.Proofs.YtkoibcblmgmdmaaGreatDoor
