/-
  Layer 14 by shadows: begun.
-/
import Derived.Test.YtkoibcblmgmdmaaGreatDoorK14d
import Derived.Test.YtkoibcblmgmdmaaGreatDoorMC
namespace Go.Proofs.YtkoibcblmgmdmaaGreatDoor
set_option linter.unusedSimpArgs false
set_option linter.unusedVariables false
open Go.RowKit Go.Maps
attribute [local irreducible] firstM machH
def hsOf (h0 h1 h2 : Int) (i : Nat) : Int := if i = 0 then h0 else if i = 1 then h1 else h2
def dOf (d0 d1 d2 : DoH) (i : Nat) : DoH := if i = 0 then d0 else if i = 1 then d1 else d2
abbrev eT1H (s : HzV) : List Sh := [eCode hz (some s)]
theorem eC1_hz : eC1 hz = eT1H := rfl
def BgInv (h0 h1 h2 : Int) (d0 d1 d2 : DoH) (L : LayV) (ws : List WordV) (hs : Nat → Int) (cd : List HzV) (k : Nat) (S : St) : Prop :=
  ∃ i : Nat, i ≤ 3 ∧ k = 3 - i ∧ S = ⟨[(4, .ptr 0 0 0), (5, .ptr 1 0 0), (6, .ptr 2 0 0), (8, .ptr 3 0 0), (9, .own 4), (10, .own 5), (11, sI ((i : Int) + 1))], [(0, .box 23 [sI h0, sI h1, sI h2]), (1, .box 26 [s8h d0.kind, s8h d0.cell, sI d0.n, s8h d1.kind, s8h d1.cell, sI d1.n, s8h d2.kind, s8h d2.cell, sI d2.n]), (2, .box 47 zCells), (3, .box 51 (eLay L)), (4, .row 66 3 ((putH ws hs i).map eWord)), (5, .row 62 1 ((cd.take i).map eT1H))], 6⟩
set_option maxRecDepth 20000 in
set_option maxHeartbeats 16000000 in
theorem ok_l14begun (a b h0 h1 h2 : Int) (d0 d1 d2 : DoH) (hd0 : DoInH d0) (hd1 : DoInH d1) (hd2 : DoInH d2) :
    Ok 13 [.agg [sI a, sI b], .agg [sI h0, sI h1, sI h2], .agg [s8h d0.kind, s8h d0.cell, sI d0.n, s8h d1.kind, s8h d1.cell, sI d1.n, s8h d2.kind, s8h d2.cell, sI d2.n]] (.tup [eWorld (worldH a b (hsOf h0 h1 h2) (dOf d0 d1 d2)), sB true]) := by
  refine ok_of_tr Tryz.func13 tr_l14begun rfl ?_
  have kp := ok_l14plan
  have kf := row_layFirst planH (by decide)
  have ks := ok_laySize planH
  rw [size_planH] at ks
  have kc := ok_layCheck planH
  rw [show checkL planH = 0 by decide] at kc
  obtain ⟨c0, hc0, hc0l⟩ : ∃ c0 : Nat, celN 0 = (c0 : Int) ∧ c0 < 376 := ⟨(celN 0).toNat, by decide, by decide⟩
  obtain ⟨c1, hc1, hc1l⟩ : ∃ c1 : Nat, celN 1 = (c1 : Int) ∧ c1 < 376 := ⟨(celN 1).toNat, by decide, by decide⟩
  have k0 := ok_layCell planH 0
  change Ok _ _ (sI (celN 0)) at k0
  rw [hc0] at k0
  have k1 := ok_layCell planH 1
  change Ok _ _ (sI (celN 1)) at k1
  rw [hc1] at k1
  have kh : ∀ i : Nat, i < 3 → ∃ b : Nat, b < 376 ∧ (hazP i).toNat = b ∧ Ok 17 [.agg (eLay planH), sI ((i : Int) + 1)] (sI b) := fun i hi => by
    have hb := hazP_in hi
    refine ⟨(hazP i).toNat, by omega, rfl, ?_⟩
    have h9 := ok_layHaz planH ((i : Int) + 1)
    have h8 := haz_planH hi
    unfold hazT at h8
    rw [h8] at h9
    rw [Int.toNat_of_nonneg hb.1]
    exact h9
  have kcode : ∀ i : Nat, i < 3 → ∀ d, DoInH d → Ok 48 [sI ((i : Int) + 1), .agg (eDoH d)] (.tup [eCode hz (some (codeH i d)), sB true]) := fun i hi d hd => ok_l14code hi d hd
  obtain ⟨_, e⟩ := worldH_ok a b (hsOf h0 h1 h2) (dOf d0 d1 d2)
  have km := ok_kMake (C := hz) (machH a b (hsOf h0 h1 h2)) 0 (codesH (dOf d0 d1 d2)) (by rw [machH_views]; decide) (n := 0) (fun s hs => by
    simp only [codesH, List.mem_cons, List.not_mem_nil, or_false] at hs
    rcases hs with rfl | rfl | rfl <;> exact codeH_good _ _) (by decide)
  rw [eC1_hz] at km
  have e1 : (makeM (C := hz) (machH a b (hsOf h0 h1 h2)) (codesH (dOf d0 d1 d2))).2 = 0 := by rw [e]
  rw [e1] at km
  change Ok _ _ (.tup [eWorld (worldH a b (hsOf h0 h1 h2) (dOf d0 d1 d2)), sI 0]) at km
  have kn := kn_H a b (hsOf h0 h1 h2) 0
  have hlen : (worldH a b (hsOf h0 h1 h2) (dOf d0 d1 d2)).tasks.length = 3 := (worldH_hzW _ _ _ _).1.len
  have hcd : codesH (dOf d0 d1 d2) = [codeH 0 d0, codeH 1 d1, codeH 2 d2] := rfl
  have hww : wordsH a b (hsOf h0 h1 h2) = putH (putV (putV (firstM planH) c0 a) c1 b) (hsOf h0 h1 h2) 3 := by
    unfold wordsH celW
    rw [hc0, hc1, Int.toNat_natCast, Int.toNat_natCast]
  rw [hww] at kn
  have hfl := firstH_len
  have hstep : ∀ i, i < 3 → ∃ (d : DoH) (q : HzV), (codesH (dOf d0 d1 d2))[i]? = some q ∧ ([s8h d0.kind, s8h d0.cell, sI d0.n, s8h d1.kind, s8h d1.cell, sI d1.n, s8h d2.kind, s8h d2.cell, sI d2.n].drop (i * 3)).take 3 = [s8h d.kind, s8h d.cell, sI d.n] ∧ [sI h0, sI h1, sI h2][i]? = some (sI (hsOf h0 h1 h2 i)) ∧
      Ok 48 [sI ((i : Int) + 1), .agg [s8h d.kind, s8h d.cell, sI d.n]] (.tup [eCode hz (some q), sB true]) := fun i hi =>
    match i, hi with
    | 0, _ => ⟨d0, _, rfl, rfl, rfl, kcode 0 (by decide) d0 hd0⟩
    | 1, _ => ⟨d1, _, rfl, rfl, rfl, kcode 1 (by decide) d1 hd1⟩
    | 2, _ => ⟨d2, _, rfl, rfl, rfl, kcode 2 (by decide) d2 hd2⟩
  have hcl : (codesH (dOf d0 d1 d2)).length = 3 := rfl
  generalize worldH a b (hsOf h0 h1 h2) (dOf d0 d1 d2) = W at km hlen ⊢
  generalize machH a b (hsOf h0 h1 h2) = M at kn km
  generalize firstM planH = fs at kf kn hfl
  generalize codesH (dOf d0 d1 d2) = cd at km hstep hcl
  generalize hsOf h0 h1 h2 = hs at kn hstep
  generalize planH = L at kp kf ks kc k0 k1 kh
  clear e e1 hcd hww hc0 hc1 kcode
  have hK := shK hz
  have hfl2 : (fs.length : Int) = 376 := by omega
  have n0 : ¬ (c0 : Int) < 0 := by omega
  have n1 : ¬ (c1 : Int) < 0 := by omega
  have m0 : ¬ (376 : Int) ≤ (c0 : Int) := by omega
  have m1 : ¬ (376 : Int) ≤ (c1 : Int) := by omega
  have z0 : c0 * 3 / 3 = c0 := by omega
  have z1 : c1 * 3 / 3 = c1 := by omega
  unfold evFn sc_l14begun rv_l14begun
  have F1 := And.intro @hK (And.intro @hfl2 (And.intro @n0 (And.intro @n1 (And.intro @m0 @m1))))
  refine eS fun _ hn1 _ _ => ?_;refine eO fun _ hk2 => ?_;refine tL F1 ?_;refine hk2 _ ?_;refine hn1 (some ([3,4,5,6], none)) _ ?_;refine eS fun _ hn3 _ _ => ?_;refine eO fun _ hk4 => ?_;refine tS 1 F1 ?_;refine Or.inl (Or.inl ⟨_, kp, ?_⟩);refine tZ F1 ?_;refine hk4 _ ?_;refine hn3 (some ([3,4,5,6,8], none)) _ ?_;refine eS fun _ hn5 _ _ => ?_;refine eO fun _ hk6 => ?_;refine tC 1 F1 ?_;refine tS 1 F1 ?_;refine Or.inl (Or.inr (Or.inl ⟨_, _, _, kf, ?_⟩));refine tL F1 ?_;refine hk6 _ ?_;refine hn5 (some ([3,4,5,6,8,9], none)) _ ?_;refine eS fun _ hn7 _ _ => ?_;refine eS fun _ hn8 _ _ => ?_;refine eO fun K9 hk9 => ?_;refine tC 3 F1 ?_;refine tS 1 F1 ?_;refine Or.inl (Or.inl ⟨_, ks, ?_⟩);refine tC 1 F1 ?_;refine tC 2 F1 ?_;refine tS 1 F1 ?_;refine Or.inl (Or.inl ⟨_, kc, ?_⟩);refine tC 1 F1 ?_;refine tC 3 F1 ?_;refine tS 1 F1 ?_;refine Or.inl (Or.inl ⟨_, k1, ?_⟩);refine tC 1 F1 ?_;refine tC 3 F1 ?_
  refine tS 1 F1 ?_;refine Or.inl (Or.inl ⟨_, k1, ?_⟩);refine tC 3 F1 ?_;refine tC 3 F1 ?_;refine tS 1 F1 ?_;refine Or.inl (Or.inl ⟨_, k0, ?_⟩);refine tC 1 F1 ?_;refine tC 3 F1 ?_;refine tS 1 F1 ?_;refine Or.inl (Or.inl ⟨_, k0, ?_⟩);refine tC 3 F1 ?_;refine tL F1 ?_;refine hk9 _ ?_;refine hn8 (some ([3,4,5,6,8,9,55], none)) _ ?_;refine eCf ?_;refine hn7 (some ([3,4,5,6,8,9], none)) _ ?_;refine eS fun _ hn10 _ _ => ?_;refine eCfl ([]) (RgI ⟨a, b, h0, h1, h2, d0, d1, d2, L, fs, c0, c1⟩) (rgS1 ⟨a, b, h0, h1, h2, d0, d1, d2, L, fs, c0, c1⟩) ?_ ?_ ?_ ?_
  · skip
    refine ⟨fun t s h => ?_, fun t j s h hj => by simp at hj, fun t s h => ?_, rfl, rfl, fun h => by simp at h⟩
    · simp only [rgB, getA] at h
      simp only [St.casts, getA]
      repeat' split at h
      all_goals first | (rename_i e; subst e; cases h; rfl) | cases h
    · simp only [rgO, getA] at h
      simp only [St.casts, getA]
      repeat' split at h
      all_goals first | (rename_i e; subst e; cases h; rfl) | cases h
  · skip
    intro done S i hI hr
    have hi16 := rdy_lt hr
    have b3 := hI.base 3 _ rfl
    have b8 := hI.base 8 _ rfl
    have b9 := hI.base 9 _ rfl
    have o0 := hI.ob 0 _ rfl
    have o4 := hI.ob 4 _ rfl
    have o5 := hI.row
    have rl := rgRow_len ⟨a, b, h0, h1, h2, d0, d1, d2, L, fs, c0, c1⟩ done
    obtain ⟨wa, hwa⟩ : ∃ w, (rgRow ⟨a, b, h0, h1, h2, d0, d1, d2, L, fs, c0, c1⟩ done)[c0]? = some w := ⟨_, List.getElem?_eq_getElem (by rw [rl]; show c0 < fs.length; omega)⟩
    obtain ⟨wb, hwb⟩ : ∃ w, (rgRow ⟨a, b, h0, h1, h2, d0, d1, d2, L, fs, c0, c1⟩ done)[c1]? = some w := ⟨_, List.getElem?_eq_getElem (by rw [rl]; show c1 < fs.length; omega)⟩
    have sa := (putV_map (v := a) hwa).symm
    have sb := (putV_map (v := b) hwb).symm
    have la : (c0 : Int) < ((rgRow ⟨a, b, h0, h1, h2, d0, d1, d2, L, fs, c0, c1⟩ done).length : Int) := by rw [rl]; show (c0 : Int) < (fs.length : Int); omega
    have lb : (c1 : Int) < ((rgRow ⟨a, b, h0, h1, h2, d0, d1, d2, L, fs, c0, c1⟩ done).length : Int) := by rw [rl]; show (c1 : Int) < (fs.length : Int); omega
    have hcase : i = 0 ∨ i = 1 ∨ i = 2 ∨ i = 3 ∨ i = 4 ∨ i = 5 ∨ i = 6 ∨ i = 7 ∨ i = 8 ∨ i = 9 ∨ i = 10 ∨ i = 11 ∨ i = 12 ∨ i = 13 ∨ i = 14 ∨ i = 15 := by simp at hi16; omega
    have hput := fun (t : Nat) (s : Sh) (q1 : getA (rgR ⟨a, b, h0, h1, h2, d0, d1, d2, L, fs, c0, c1⟩) t = some (i, s)) q2 q3 q4 q5 => hI.put (t := t) (s := s) q1 q2 q3 q4 q5
    have hgot := fun t j s h h2 => hI.got t j s h h2
    rcases hcase with rfl | rfl | rfl | rfl | rfl | rfl | rfl | rfl | rfl | rfl | rfl | rfl | rfl | rfl | rfl | rfl
    · have F9 := And.intro b9 o5
      refine cfOp rfl fun K9 hk9 => ?_;refine sh1 F9 ?_;refine hk9 _ ?_
      exact hput 57 _ rfl rfl rfl (by decide) (by decide)
    · have F9 := And.intro b8 o4
      refine cfOp rfl fun K9 hk9 => ?_;refine sh1 F9 ?_;refine hk9 _ ?_
      exact hput 58 _ rfl rfl rfl (by decide) (by decide)
    · have g58 := hgot 58 1 _ rfl (rdy_wait hr rfl 1 rfl)
      have F9 := g58
      refine cfOp rfl fun K9 hk9 => ?_;refine sh1 F9 ?_;refine Or.inl (Or.inl ⟨_, k0, ?_⟩);refine hk9 _ ?_
      exact hput 59 _ rfl rfl rfl (by decide) (by decide)
    · have F9 := And.intro b9 o5
      refine cfOp rfl fun K9 hk9 => ?_;refine sh1 F9 ?_;refine hk9 _ ?_
      exact hput 60 _ rfl rfl rfl (by decide) (by decide)
    · have F9 := And.intro b8 o4
      refine cfOp rfl fun K9 hk9 => ?_;refine sh1 F9 ?_;refine hk9 _ ?_
      exact hput 61 _ rfl rfl rfl (by decide) (by decide)
    · have g61 := hgot 61 4 _ rfl (rdy_wait hr rfl 4 rfl)
      have F9 := g61
      refine cfOp rfl fun K9 hk9 => ?_;refine sh1 F9 ?_;refine Or.inl (Or.inl ⟨_, k1, ?_⟩);refine hk9 _ ?_
      exact hput 62 _ rfl rfl rfl (by decide) (by decide)
    · have F9 := And.intro b3 o0
      refine cfOp rfl fun K9 hk9 => ?_;refine sh1 F9 ?_;refine sd ?_;refine hk9 _ ?_
      exact hput 63 _ rfl rfl rfl (by decide) (by decide)
    · have g63 := hgot 63 6 _ rfl (rdy_wait hr rfl 6 rfl)
      have F9 := And.intro g63 o0
      refine cfOp rfl fun K9 hk9 => ?_;refine sh1 F9 ?_;refine hk9 _ ?_
      exact hput 64 _ rfl rfl rfl (by decide) (by decide)
    · have F9 := And.intro b3 o0
      refine cfOp rfl fun K9 hk9 => ?_;refine sh1 F9 ?_;refine sd ?_;refine hk9 _ ?_
      exact hput 65 _ rfl rfl rfl (by decide) (by decide)
    · have g65 := hgot 65 8 _ rfl (rdy_wait hr rfl 8 rfl)
      have F9 := And.intro g65 o0
      refine cfOp rfl fun K9 hk9 => ?_;refine sh1 F9 ?_;refine hk9 _ ?_
      exact hput 66 _ rfl rfl rfl (by decide) (by decide)
    · have g57 := hgot 57 0 _ rfl (rdy_wait hr rfl 0 rfl)
      have g59 := hgot 59 2 _ rfl (rdy_wait hr rfl 2 rfl)
      have F9 := And.intro g57 (And.intro g59 (And.intro o5 (And.intro la z0)))
      refine cfOp rfl fun K9 hk9 => ?_;refine sh1 F9 ?_;refine sd ?_;refine hk9 _ ?_
      exact hput 67 _ rfl rfl rfl (by decide) (by decide)
    · have g67 := hgot 67 10 _ rfl (rdy_wait hr rfl 10 rfl)
      have F9 := And.intro g67 (And.intro o5 z0)
      refine cfOp rfl fun K9 hk9 => ?_;refine sh1 F9 ?_;refine hk9 _ ?_
      exact hput 68 _ rfl rfl rfl (by decide) (by decide)
    · have g68 := hgot 68 11 _ rfl (rdy_wait hr rfl 11 rfl)
      have g64 := hgot 64 7 _ rfl (rdy_wait hr rfl 7 rfl)
      have F9 := And.intro g68 (And.intro g64 (And.intro o5 (And.intro hwa (And.intro sa z0))))
      refine cfOp rfl fun K9 hk9 => ?_;refine sh1 F9 ?_;refine sd ?_;refine hk9 _ ?_
      exact hI.store (.inl rfl) (rgRow_12 (rdy_not hr) (by
        cases h9 : done.contains 15
        · rfl
        · have h8 := hI.cl h9; have h7 := rdy_not hr; rw [h8] at h7; cases h7))
    · have g60 := hgot 60 3 _ rfl (rdy_wait hr rfl 3 rfl)
      have g62 := hgot 62 5 _ rfl (rdy_wait hr rfl 5 rfl)
      have F9 := And.intro g60 (And.intro g62 (And.intro o5 (And.intro lb z1)))
      refine cfOp rfl fun K9 hk9 => ?_;refine sh1 F9 ?_;refine sd ?_;refine hk9 _ ?_
      exact hput 69 _ rfl rfl rfl (by decide) (by decide)
    · have g69 := hgot 69 13 _ rfl (rdy_wait hr rfl 13 rfl)
      have F9 := And.intro g69 (And.intro o5 z1)
      refine cfOp rfl fun K9 hk9 => ?_;refine sh1 F9 ?_;refine hk9 _ ?_
      exact hput 70 _ rfl rfl rfl (by decide) (by decide)
    · have g70 := hgot 70 14 _ rfl (rdy_wait hr rfl 14 rfl)
      have g66 := hgot 66 9 _ rfl (rdy_wait hr rfl 9 rfl)
      have F9 := And.intro g70 (And.intro g66 (And.intro o5 (And.intro hwb (And.intro sb z1))))
      refine cfOp rfl fun K9 hk9 => ?_;refine sh1 F9 ?_;refine sd ?_;refine hk9 _ ?_
      exact hI.store (.inr ⟨rfl, rdy_wait hr rfl 12 rfl⟩) (rgRow_15 (rdy_wait hr rfl 12 rfl) (rdy_not hr))
  · skip
    intro done S hI hall
    exact rg_end hI hall
  refine hn10 (some ([4,5,6,8,9], none)) _ ?_;refine eS fun _ hn11 _ _ => ?_;refine eO fun _ hk12 => ?_;refine tL F1 ?_;refine hk12 _ ?_;refine hn11 (some ([4,5,6,8,9,10], none)) _ ?_;refine eS fun _ hn13 _ _ => ?_;refine eS fun _ hn14 _ _ => ?_;refine eO fun _ hk15 => ?_;refine tL F1 ?_;refine hk15 _ ?_;refine hn14 (some ([4,5,6,8,9,10,11], none)) _ ?_;refine eB fun _ _ hx16 _ _ => ?_;refine eW (BgInv h0 h1 h2 d0 d1 d2 L (putV (putV fs c0 a) c1 b) hs cd) (3) (some ([4,5,6,8,9,10,11], some ([1,2,3,4,5,6], 6))) ([.slot 10 (some 62) 1]) ?_ ?_
  · try refine lp0 ?_
    exact ⟨0, by omega, by omega, by rfl⟩
  · intro k S1 hI
    obtain ⟨i, hi, rfl, rfl⟩ := hI
    have hcase : i = 3 ∨ i < 3 := by omega
    intro _ hn17 _ he17
    rcases hcase with hcc | hcc
    · skip
      subst hcc
      have w3 : cd.take 3 = cd := List.take_of_length_le (by omega)
      have w2 : ¬ ((3 : Nat) : Int) + 1 ≤ 3 := by omega
      have w4 : (W.tasks.length : Int) = 3 := by omega
      have F2 := And.intro F1 (And.intro @w2 (And.intro @w3 @w4))
      refine eS fun _ _ _ he18 => ?_;refine eS fun _ hn19 _ _ => ?_;refine eO fun _ hk20 => ?_;refine tZ F2 ?_;refine hk20 _ ?_;refine hn19 (some ([4,5,6,8,9,10,11,72], none)) _ ?_;refine eCf ?_;refine he18 0 _ ?_;refine he17 0 _ ?_;refine hx16 _ ?_;refine hn13 (some ([6,9,10], none)) _ ?_;refine eS fun _ hn21 _ _ => ?_;refine eO fun _ hk22 => ?_;refine tS 1 F2 ?_;refine tS 1 F2 ?_;refine Or.inl (Or.inl ⟨_, kn, ?_⟩);refine tC 5 F2 ?_;refine tL F2 ?_;refine hk22 _ ?_;refine hn21 (some ([6,10,15,16], none)) _ ?_;refine eS fun _ hn23 _ _ => ?_;refine eO fun _ hk24 => ?_;refine tC 1 F2 ?_;refine tS 1 F2 ?_;refine tS 1 F2 ?_;refine Or.inl (Or.inl ⟨_, km, ?_⟩);refine tC 5 F2 ?_;refine tL F2 ?_;refine hk24 _ ?_;refine hn23 (some ([6,16,17,18], none)) _ ?_;refine eS fun _ hn25 _ _ => ?_;refine eP ([]) [6,7] [0,1,2,3,4,5,6,7,8,9,10,11,12,14] [13] (by kernel_rfl) (fun _ hk26 => ?_);refine sp0 ?_
      have F3 := And.intro F2 @shPP
      refine evP_take 1 fun _ hk27 => ?_;refine sh1 F3 ?_;refine sd ?_;refine hk27 _ ?_;refine evP_take 2 fun _ hk28 => ?_;refine sh1 F3 ?_;refine sd ?_;refine hk28 _ ?_;refine evP_take 3 fun _ hk29 => ?_;refine sh1 F3 ?_;refine sd ?_;refine hk29 _ ?_;refine evP_take 4 fun _ hk30 => ?_;refine sh1 F3 ?_;refine sd ?_;refine hk30 _ ?_;refine evP_take 2 fun _ hk31 => ?_;refine sh1 F3 ?_;refine sd ?_;refine hk31 _ ?_;refine sh1 F3 ?_;refine hk26 _ (by rfl) (fun _ hk32 => ?_);refine sp0 ?_;refine toKL ?_;refine tZ F3 ?_;refine hk32 _ ?_;refine so0 ?_;refine hn25 (some ([6,7], none)) _ ?_
      exact sf1 F3
    · skip
      have w2 : (i : Int) + 1 ≤ 3 := by omega
      have w3 : IntKind.i64.wrap ((i : Int) + 1 + 1) = ((i + 1 : Nat) : Int) + 1 := by rw [IntKind.wrap_i64]; omega
      have w1 : IntKind.i64.wrap ((i : Int) + 1 - 1) = (i : Int) := by rw [IntKind.wrap_i64]; omega
      obtain ⟨d, q, hs1, hs2, hs3, km2⟩ := hstep i hcc
      have hcs : (cd.take (i + 1)).map eT1H = (cd.take i).map eT1H ++ [eT1H q] := by
        rw [List.take_add_one, hs1]; simp
      have w4 : (cd.take i).length = i := by rw [List.length_take, hcl]; omega
      have w5 : (i + 1) * 16 ≤ 140737488355328 := by omega
      have w6 : (i : Int) < 3 := by omega
      have w7 : i * 1 = i := Nat.mul_one i
      obtain ⟨bb, hb, hbe, kb⟩ := kh i hcc
      have v4 : (putH (putV (putV fs c0 a) c1 b) hs i).length = 376 := by rw [putH_len, putV_len, putV_len, hfl]
      obtain ⟨w, hw⟩ : ∃ w, (putH (putV (putV fs c0 a) c1 b) hs i)[bb]? = some w := ⟨_, List.getElem?_eq_getElem (by omega)⟩
      have v6 : ((putH (putV (putV fs c0 a) c1 b) hs i).map eWord).set bb [sI (hs i), sU w.ver, sU w.ref] = (putH (putV (putV fs c0 a) c1 b) hs (i + 1)).map eWord := by
        show _ = (putV _ (hazP i).toNat (hs i)).map eWord
        rw [hbe, putV_map hw]
      have v7 : (bb : Int) < 376 := by omega
      have v8 : bb * 3 / 3 = bb := by omega
      have v9 : ¬ (bb : Int) < 0 := by omega
      have v10 : ¬ (376 : Int) ≤ (bb : Int) := by omega
      have v11 : i * 3 + 3 ≤ 9 := by omega
      have p0 : (0 : Int) ≤ (i : Int) := by omega
      have p1 : (0 : Int) ≤ (bb : Int) := by omega
      have w6b : (i : Int) < ((3 : Nat) : Int) := by omega
      have v7b : (bb : Int) < ((376 : Nat) : Int) := by omega
      have v10b : ¬ ((376 : Nat) : Int) ≤ (bb : Int) := by omega
      have v12 : i ≤ 1000000 := by omega
      have F4 := And.intro F1 (And.intro @w1 (And.intro @w2 (And.intro @w3 (And.intro @w4 (And.intro @w5 (And.intro @w6 (And.intro @w7 (And.intro @v4 (And.intro @hw (And.intro @v6 (And.intro @v7 (And.intro @v7b (And.intro @v8 (And.intro @v9 (And.intro @v10 (And.intro @v10b (And.intro @v11 (And.intro @hs2 (And.intro @hs3 @hcc)))))))))))))))))))
      refine eS fun _ hn33 _ _ => ?_;refine eS fun _ hn34 _ _ => ?_;refine eO fun _ hk35 => ?_;refine tZ F4 ?_;refine hk35 _ ?_;refine hn34 (some ([4,5,6,8,9,10,11,72], none)) _ ?_;refine eCt ?_;refine hn33 (some ([4,5,6,8,9,10,11], none)) _ ?_;refine eS fun _ hn36 _ _ => ?_;refine eB fun _ hn37 _ _ _ => ?_;refine eS fun _ hn38 _ _ => ?_;refine eO fun _ hk39 => ?_;refine tC 1 F4 ?_;refine tS 1 F4 ?_;refine tS 1 F4 ?_;refine Or.inl (Or.inl ⟨_, kb, ?_⟩);refine tL F4 ?_;refine hk39 _ ?_;refine hn38 (some ([4,5,6,8,9,10,11,12], none)) _ ?_;refine eS fun _ hn40 _ _ => ?_;refine eS fun _ hn41 _ _ => ?_;refine eO fun _ hk42 => ?_;refine tC 2 F4 ?_;refine tC 5 F4 ?_;refine tL F4 ?_;refine hk42 _ ?_;refine hn41 (some ([4,5,6,8,9,10,11,12,85], none)) _ ?_;refine eCf ?_;refine hn40 (some ([4,5,6,8,9,10,11,12], none)) _ ?_;refine eS fun _ hn43 _ _ => ?_;refine eO fun _ hk44 => ?_;refine tC 4 F4 ?_;refine tC 1 F4 ?_
      refine tC 1 F4 ?_;refine tC 1 F4 ?_;refine tZ F4 ?_;refine hk44 _ ?_;refine hn43 (some ([4,5,6,8,9,10,11], none)) _ ?_;refine eS fun _ hn45 _ _ => ?_;refine eO fun _ hk46 => ?_;refine tC 3 F4 ?_;refine tC 1 F4 ?_;refine tC 1 F4 ?_;refine tS 1 F4 ?_;refine Or.inl (Or.inl ⟨_, km2, ?_⟩);refine tL F4 ?_;refine hk46 _ ?_;refine hn45 (some ([4,5,6,8,9,10,11,13,14], none)) _ ?_;refine eS fun _ hn47 _ _ => ?_;refine eS fun _ hn48 _ _ => ?_;refine eO fun _ hk49 => ?_;refine tL F4 ?_;refine hk49 _ ?_;refine hn48 (some ([4,5,6,8,9,10,11,13,105], none)) _ ?_;refine eCf ?_;refine hn47 (some ([4,5,6,8,9,10,11,13], none)) _ ?_;refine eO fun _ hk50 => ?_;refine tC 3 F4 ?_;refine tC 1 F4 ?_;refine tL F4 ?_;refine hk50 _ ?_;refine hn37 _ ?_;refine hn36 (some ([4,5,6,8,9,10,11], none)) _ ?_;refine eO fun _ hk51 => ?_;refine tC 2 F4 ?_;refine tL F4 ?_;refine hk51 _ ?_;refine hn17 (3 - (i + 1)) (some ([4,5,6,8,9,10,11], some ([0,1,2,3,4,6], 6))) _ ?_ ?_
      all_goals try refine lp0 ?_
      · omega
      · exact ⟨i + 1, by omega, by omega, by rw [hcs]⟩
end Go.Proofs.YtkoibcblmgmdmaaGreatDoor
