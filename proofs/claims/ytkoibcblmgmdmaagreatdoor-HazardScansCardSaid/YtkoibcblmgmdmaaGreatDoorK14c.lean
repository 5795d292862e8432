/-
  Layer 14 by shadows: the world in which the laws begin.
-/
import Derived.Test.YtkoibcblmgmdmaaGreatDoorK14b
import Derived.Test.YtkoibcblmgmdmaaGreatDoorK13b
import Derived.Test.YtkoibcblmgmdmaaGreatDoorMK2
import Derived.Test.YtkoibcblmgmdmaaGreatDoorMC
namespace Go.Proofs.YtkoibcblmgmdmaaGreatDoor
set_option linter.unusedSimpArgs false
set_option linter.unusedVariables false
open Go.RowKit Go.Maps
set_option maxHeartbeats 4000000 in
theorem row_layFirst (l : LayV) (h : checkL l = 0) : OkRow 27 [.agg (eLay l)] 66 3 ((firstM l).map eWord) := by
  have hp : ∀ e ∈ (firstM l).map eWord, plainB e = true := fun e he => by
    obtain ⟨w, _, rfl⟩ := List.mem_map.1 he
    rfl
  have hl0 : (firstM l).length = (fromL l 7).toNat := by
    unfold firstM
    rw [slotsV_len, slotsV_len, putV_len, List.length_replicate]
  have hpos : 0 < (firstM l).length := by
    have := (at_lt h (p := 0) (by omega) (i := 0) (more := 1) ⟨by omega, by show (0 : Int) < 1; omega⟩ ⟨by omega, by show (1 : Int) < 8; omega⟩)
    omega
  refine okRow_of_tr Tryz.func27 tr_layFirst rfl rfl hp (fun h0 => by rw [List.map_eq_nil_iff] at h0; rw [h0] at hpos; simp at hpos) ?_
  clear hp hl0 hpos
  obtain ⟨hr, h7⟩ := checkL_zero h
  obtain ⟨⟨t1, t2⟩, _, b1, b2⟩ := hr
  have k0 := ok_layRight l
  rw [h] at k0
  have k1 := ok_laySize l
  unfold sizeofL at k1
  rw [if_pos h] at k1
  have k2 := ok_layEra l
  have hN0 := (from_le (checkL_zero h).1 7).1
  obtain ⟨a1, a2⟩ := at_lt h (p := 0) (by omega) (i := 0) (more := 1) ⟨by omega, by show (0 : Int) < 1; omega⟩ ⟨by omega, by show (1 : Int) < 8; omega⟩
  unfold firstM
  obtain ⟨N, hN⟩ : ∃ N : Nat, fromL l 7 = (N : Int) := ⟨_, (Int.toNat_of_nonneg hN0).symm⟩
  obtain ⟨a, ha⟩ : ∃ a : Nat, atL l 0 0 1 = (a : Int) := ⟨_, (Int.toNat_of_nonneg a1).symm⟩
  have k3 : ∀ i : Nat, (i : Int) < l.threads → ∃ b : Nat, b < N ∧ atL l 4 i 0 = (b : Int) ∧ Ok 61 [.agg (eLay l), sI ((i : Int) + 1)] (sI b) := fun i hi => by
    obtain ⟨c1, c2⟩ := at_lt h (p := 4) (by omega) (i := i) (more := 0) ⟨by omega, hi⟩ ⟨by omega, by show (0 : Int) < 104; omega⟩
    have e : ((atL l 4 i 0).toNat : Int) = atL l 4 i 0 := Int.toNat_of_nonneg c1
    refine ⟨(atL l 4 i 0).toNat, by omega, e.symm, ?_⟩
    have := ok_laySlot l ((i : Int) + 1)
    rwa [show IntKind.i64.wrap ((i : Int) + 1 - 1) = (i : Int) by rw [IntKind.wrap_i64]; omega, ← e] at this
  have k4 : ∀ i : Nat, (i : Int) < l.blocks → ∃ b : Nat, b < N ∧ atL l 6 i 0 = (b : Int) ∧ Ok 62 [.agg (eLay l), sI (i : Int)] (sI b) := fun i hi => by
    obtain ⟨c1, c2⟩ := at_lt h (p := 6) (by omega) (i := i) (more := 0) ⟨by omega, hi⟩ ⟨by omega, by show (0 : Int) < 32; omega⟩
    have e : ((atL l 6 i 0).toNat : Int) = atL l 6 i 0 := Int.toNat_of_nonneg c1
    refine ⟨(atL l 6 i 0).toNat, by omega, e.symm, ?_⟩
    have := ok_layBlock l (i : Int)
    rwa [← e] at this
  rw [hN] at k1 a2 h7
  rw [ha] at k2 a2
  rw [hN, ha]
  simp only [Int.toNat_natCast]
  have aN : a < N := by omega
  have aN' : (a : Int) < (N : Int) := by omega
  have q1 : N ≤ 4096 := by omega
  have q2 : N * 16 ≤ 140737488355328 := by omega
  have q3 : N * 3 ≤ 140737488355328 := by omega
  have e0 : a * 3 / 3 = a := by omega
  have r1 : (List.replicate N [sI 0, sU 0, sU 0])[a]? = some [sI 0, sU 0, sU 0] := by rw [List.getElem?_replicate, if_pos aN]
  have r2 : (List.replicate N [sI 0, sU 0, sU 0]).set a [sI 1, sU 0, sU 0] = (putV (List.replicate N ⟨0, 0, 0⟩) a 1).map eWord := by
    rw [putV_map (w := ⟨0, 0, 0⟩) (by rw [List.getElem?_replicate, if_pos aN]), List.map_replicate]
  have hl : (putV (List.replicate N ⟨0, 0, 0⟩) a 1).length = N := by rw [putV_len]; simp
  generalize putV (List.replicate N ⟨0, 0, 0⟩) a 1 = ws at r2 hl ⊢
  unfold sc_layFirst
  have F1 := And.intro @aN (And.intro @aN' (And.intro @q1 (And.intro @q2 (And.intro @q3 (And.intro @r1 (And.intro @r2 @e0))))))
  refine eS fun _ hn1 _ _ => ?_;refine eO fun _ hk2 => ?_;refine tL F1 ?_;refine hk2 _ ?_;refine hn1 (some ([1], none)) _ ?_;refine eS fun _ hn3 _ _ => ?_;refine eS fun _ hn4 _ _ => ?_;refine eO fun _ hk5 => ?_;refine tC 1 F1 ?_;refine tS 1 F1 ?_;refine Or.inl (Or.inl ⟨_, k0, ?_⟩);refine tL F1 ?_;refine hk5 _ ?_;refine hn4 (some ([1,8], none)) _ ?_;refine eCf ?_;refine hn3 (some ([1], none)) _ ?_;refine eS fun _ hn6 _ _ => ?_;refine eO fun _ hk7 => ?_;refine tC 1 F1 ?_;refine tS 1 F1 ?_;refine Or.inl (Or.inl ⟨_, k1, ?_⟩);refine tC 1 F1 ?_;refine tL F1 ?_;refine hk7 _ ?_;refine hn6 (some ([1,3], none)) _ ?_;refine eS fun _ hn8 _ _ => ?_;refine eO fun _ hk9 => ?_;refine tC 2 F1 ?_;refine tS 1 F1 ?_;refine Or.inl (Or.inl ⟨_, k2, ?_⟩);refine tC 1 F1 ?_;refine tZ F1 ?_;refine hk9 _ ?_;refine hn8 (some ([1,3], none)) _ ?_;refine eS fun _ hn10 _ _ => ?_;refine eS fun _ hn11 _ _ => ?_;refine eO fun _ hk12 => ?_
  refine tL F1 ?_;refine hk12 _ ?_;refine hn11 (some ([1,3,4], none)) _ ?_;refine eB fun _ _ hx13 _ _ => ?_;refine eW (FsInv l ws) (l.threads.toNat) (some ([1,3,4], some ([0,1], 2))) ([]) ?_ ?_
  · try refine lp0 ?_
    exact ⟨0, by omega, by omega, by rfl⟩
  · intro k S1 hI
    obtain ⟨i, hi, rfl, rfl⟩ := hI
    have hcase : (i : Int) = l.threads ∨ (i : Int) < l.threads := by omega
    intro _ hn14 _ he14
    rcases hcase with hcc | hcc
    · skip
      obtain rfl : i = l.threads.toNat := by omega
      have w2 : ¬ (l.threads.toNat : Int) + 1 ≤ l.threads := by omega
      have F2 := And.intro F1 @w2
      refine eS fun _ _ _ he15 => ?_;refine eS fun _ hn16 _ _ => ?_;refine eO fun _ hk17 => ?_;refine tC 3 F2 ?_;refine tZ F2 ?_;refine hk17 _ ?_;refine hn16 (some ([1,3,4,20], none)) _ ?_;refine eCf ?_;refine he15 0 _ ?_;refine he14 0 _ ?_;refine hx13 _ ?_;refine hn10 (some ([1,3], none)) _ ?_;refine eS fun _ hn18 _ _ => ?_;refine eS fun _ hn19 _ _ => ?_;refine eO fun _ hk20 => ?_;refine tC 2 F2 ?_;refine tL F2 ?_;refine hk20 _ ?_;refine hn19 (some ([1,3,30,31], none)) _ ?_;refine eB fun _ _ hx21 _ _ => ?_;refine eW (FbInv l (slotsV l 4 ws l.threads.toNat)) (l.blocks.toNat) (some ([1,3,30,31], some ([0,1], 2))) ([]) ?_ ?_
      · try refine lp0 ?_
        exact ⟨0, by omega, by omega, by rfl⟩
      · intro k S1 hI
        obtain ⟨j, hj, rfl, rfl⟩ := hI
        have hcas2 : (j : Int) = l.blocks ∨ (j : Int) < l.blocks := by omega
        intro _ hn22 _ he22
        rcases hcas2 with hcd | hcd
        · skip
          obtain rfl : j = l.blocks.toNat := by omega
          have v2 : ¬ (l.blocks.toNat : Int) < l.blocks := by omega
          have F3 := And.intro F2 @v2
          refine eS fun _ hn23 _ _ => ?_;refine eO fun _ hk24 => ?_;refine tZ F3 ?_;refine hk24 _ ?_;refine hn23 (some ([1,3,30,31,32], none)) _ ?_;refine eS fun _ _ _ he25 => ?_;refine eCf ?_;refine he25 2 _ ?_;refine he22 2 _ ?_;refine hx21 _ ?_;refine hn18 (some ([3], none)) _ ?_;refine eS fun _ hn26 _ _ => ?_;refine eO fun _ hk27 => ?_;refine tL F3 ?_;refine hk27 _ ?_;refine hn26 (some ([2], none)) _ ?_
          exact finRow_mk (by rfl) (by rfl)
        · skip
          have v3 : IntKind.i64.wrap ((j : Int) + 1) = ((j + 1 : Nat) : Int) := by rw [IntKind.wrap_i64]; omega
          obtain ⟨b, hb, hbe, kb⟩ := k4 j hcd
          have v4 : (slotsV l 6 (slotsV l 4 ws l.threads.toNat) j).length = N := by rw [slotsV_len, slotsV_len, hl]
          obtain ⟨w, hw⟩ : ∃ w, (slotsV l 6 (slotsV l 4 ws l.threads.toNat) j)[b]? = some w := ⟨_, List.getElem?_eq_getElem (by omega)⟩
          have v5 : ((slotsV l 6 (slotsV l 4 ws l.threads.toNat) j).map eWord)[b]? = some (eWord w) := by rw [List.getElem?_map, hw]; rfl
          have v6 : ((slotsV l 6 (slotsV l 4 ws l.threads.toNat) j).map eWord).set b [sI 2, sU w.ver, sU w.ref] = (slotsV l 6 (slotsV l 4 ws l.threads.toNat) (j + 1)).map eWord := by
            show _ = (putV _ (atL l 6 j 0).toNat 2).map eWord
            rw [hbe, Int.toNat_natCast, putV_map hw]
          have v7 : (b : Int) < (N : Int) := by omega
          have v8 : b * 3 / 3 = b := by omega
          have F4 := And.intro F2 (And.intro @hcd (And.intro @v3 (And.intro @v4 (And.intro @hw (And.intro @v6 (And.intro @v7 (And.intro @v8 @hb)))))))
          refine eS fun _ hn28 _ _ => ?_;refine eO fun _ hk29 => ?_;refine tZ F4 ?_;refine hk29 _ ?_;refine hn28 (some ([1,3,30,31,32], none)) _ ?_;refine eS fun _ hn30 _ _ => ?_;refine eCt ?_;refine hn30 (some ([1,3,30,31], none)) _ ?_;refine eS fun _ hn31 _ _ => ?_;refine eB fun _ hn32 _ _ _ => ?_;refine eS fun _ hn33 _ _ => ?_;refine eO fun _ hk34 => ?_;refine tL F4 ?_;refine hk34 _ ?_;refine hn33 (some ([1,3,5,30,31], none)) _ ?_;refine eO fun _ hk35 => ?_;refine tC 2 F4 ?_;refine tS 1 F4 ?_;refine tS 1 F4 ?_;refine Or.inl (Or.inl ⟨_, kb, ?_⟩);refine tC 1 F4 ?_;refine tZ F4 ?_;refine hk35 _ ?_;refine hn32 _ ?_;refine hn31 (some ([1,3,30,31], none)) _ ?_;refine eO fun _ hk36 => ?_;refine tC 1 F4 ?_;refine tL F4 ?_;refine hk36 _ ?_;refine hn22 (l.blocks.toNat - (j + 1)) (some ([1,3,30,31], some ([0,1], 2))) _ ?_ ?_
          all_goals try refine lp0 ?_
          · omega
          · exact ⟨j + 1, by omega, by omega, rfl⟩
    · skip
      have w2 : (i : Int) + 1 ≤ l.threads := by omega
      have w3 : IntKind.i64.wrap ((i : Int) + 1 + 1) = ((i + 1 : Nat) : Int) + 1 := by rw [IntKind.wrap_i64]; omega
      obtain ⟨b, hb, hbe, kb⟩ := k3 i hcc
      have v4 : (slotsV l 4 ws i).length = N := by rw [slotsV_len, hl]
      obtain ⟨w, hw⟩ : ∃ w, (slotsV l 4 ws i)[b]? = some w := ⟨_, List.getElem?_eq_getElem (by omega)⟩
      have v6 : ((slotsV l 4 ws i).map eWord).set b [sI 2, sU w.ver, sU w.ref] = (slotsV l 4 ws (i + 1)).map eWord := by
        show _ = (putV _ (atL l 4 i 0).toNat 2).map eWord
        rw [hbe, Int.toNat_natCast, putV_map hw]
      have v7 : (b : Int) < (N : Int) := by omega
      have v8 : b * 3 / 3 = b := by omega
      have F5 := And.intro F1 (And.intro @w2 (And.intro @w3 (And.intro @v4 (And.intro @hw (And.intro @v6 (And.intro @v7 (And.intro @v8 @hb)))))))
      refine eS fun _ hn37 _ _ => ?_;refine eS fun _ hn38 _ _ => ?_;refine eO fun _ hk39 => ?_;refine tC 3 F5 ?_;refine tZ F5 ?_;refine hk39 _ ?_;refine hn38 (some ([1,3,4,20], none)) _ ?_;refine eCt ?_;refine hn37 (some ([1,3,4], none)) _ ?_;refine eS fun _ hn40 _ _ => ?_;refine eB fun _ hn41 _ _ _ => ?_;refine eO fun _ hk42 => ?_;refine tC 2 F5 ?_;refine tS 1 F5 ?_;refine tS 1 F5 ?_;refine Or.inl (Or.inl ⟨_, kb, ?_⟩);refine tC 1 F5 ?_;refine tZ F5 ?_;refine hk42 _ ?_;refine hn41 _ ?_;refine hn40 (some ([1,3,4], none)) _ ?_;refine eO fun _ hk43 => ?_;refine tC 2 F5 ?_;refine tL F5 ?_;refine hk43 _ ?_;refine hn14 (l.threads.toNat - (i + 1)) (some ([1,3,4], some ([0,1], 2))) _ ?_ ?_
      all_goals try refine lp0 ?_
      · omega
      · exact ⟨i + 1, by omega, by omega, rfl⟩
def putH (ws : List WordV) (hs : Nat → Int) : Nat → List WordV
  | 0 => ws
  | i + 1 => putV (putH ws hs i) (hazP i).toNat (hs i)
theorem putH_len (ws : List WordV) (hs : Nat → Int) : ∀ i, (putH ws hs i).length = ws.length
  | 0 => rfl
  | i + 1 => by show (putV _ _ _).length = _; rw [putV_len, putH_len ws hs i]
def celW (a b : Int) : List WordV := putV (putV (firstM planH) (celN 0).toNat a) (celN 1).toNat b
def wordsH (a b : Int) (hs : Nat → Int) : List WordV := putH (celW a b) hs 3
theorem firstH_len : (firstM planH).length = 376 := by
  unfold firstM
  rw [slotsV_len, slotsV_len, putV_len, List.length_replicate]
  decide
theorem celW_len (a b : Int) : (celW a b).length = 376 := by unfold celW; rw [putV_len, putV_len, firstH_len]
theorem wordsH_len (a b : Int) (hs : Nat → Int) : (wordsH a b hs).length = 376 := by unfold wordsH; rw [putH_len, celW_len]
def machH (a b : Int) (hs : Nat → Int) : MachM := (cnewM 3 (wordsH a b hs)).1
theorem mnew_H (a b : Int) (hs : Nat → Int) : (mnewM 3 (wordsH a b hs)).2 = 0 := by
  unfold mnewM
  rw [if_neg (by omega), if_neg (by rw [wordsH_len]; decide), if_neg (by rw [wordsH_len]; decide)]
theorem kn_H (a b : Int) (hs : Nat → Int) (g : Nat) : Ok 49 [sI 3, .sl 3 g ((wordsH a b hs).map eWord)] (.tup [eMach (machH a b hs), sI 0]) := by
  have h := ok_cNew 3 g (wordsH a b hs)
  rw [(cnew_sizes (mnew_H a b hs)).2.2] at h
  unfold machH
  exact h
theorem machH_ok (a b : Int) (hs : Nat → Int) : MachOk (machH a b hs) 1 := by unfold machH; exact machOk_up (machOk_new _ _) (by omega)
theorem machH_views (a b : Int) (hs : Nat → Int) : (machH a b hs).mem.views.length = 3 := by unfold machH; rw [(cnew_sizes (mnew_H a b hs)).1]; rfl
theorem machH_places (a b : Int) (hs : Nat → Int) : (machH a b hs).mem.places.length = 376 := by unfold machH; rw [(cnew_sizes (mnew_H a b hs)).2.1, wordsH_len]
theorem putV_get {ws : List WordV} {k : Nat} {v : Int} (j : Nat) : (putV ws k v)[j]? = if j = k then (ws[j]?.map fun w => { w with val := v }) else ws[j]? := by
  unfold putV
  rw [List.getElem?_set]
  by_cases h : k = j
  · subst h
    rw [if_pos rfl, if_pos rfl]
    by_cases h2 : k < ws.length
    · rw [if_pos h2, List.getElem?_eq_getElem h2]; rfl
    · rw [if_neg h2, List.getElem?_eq_none (by omega)]; rfl
  · rw [if_neg h, if_neg (fun e => h e.symm)]
theorem wd_H (a b : Int) (hs : Nat → Int) : (∀ i, i < 3 → (Wd (machH a b hs) (hazP i)).val = hs i) ∧ (Wd (machH a b hs) (celN 0)).val = a ∧ (Wd (machH a b hs) (celN 1)).val = b := by
  have hget : ∀ (p : Int) (v : Int), 0 ≤ p → ((wordsH a b hs)[p.toNat]?.map WordV.val) = some v → (Wd (machH a b hs) p).val = v := fun p v hp h => by
    obtain ⟨w, hw, e⟩ := Option.map_eq_some_iff.1 h
    have := wd_new (mnew_H a b hs) hw
    rw [Int.toNat_of_nonneg hp] at this
    rw [← e, ← this]
    unfold machH
    with_reducible rfl
  have hmap : ∀ (ws : List WordV) (k : Nat) (v : Int) (j : Nat), j < ws.length → ((putV ws k v)[j]?.map WordV.val) = if j = k then some v else ws[j]?.map WordV.val := fun ws k v j hj => by
    rw [putV_get]
    split
    · rw [List.getElem?_eq_getElem hj]; rfl
    · rfl
  have n0 : (hazP 0).toNat < 376 ∧ (hazP 1).toNat < 376 ∧ (hazP 2).toNat < 376 ∧ (celN 0).toNat < 376 ∧ (celN 1).toNat < 376 := by decide
  have hne : (hazP 0).toNat ≠ (hazP 1).toNat ∧ (hazP 0).toNat ≠ (hazP 2).toNat ∧ (hazP 1).toNat ≠ (hazP 2).toNat ∧ (celN 0).toNat ≠ (hazP 0).toNat ∧ (celN 0).toNat ≠ (hazP 1).toNat ∧ (celN 0).toNat ≠ (hazP 2).toNat ∧
      (celN 1).toNat ≠ (hazP 0).toNat ∧ (celN 1).toNat ≠ (hazP 1).toNat ∧ (celN 1).toNat ≠ (hazP 2).toNat ∧ (celN 0).toNat ≠ (celN 1).toNat := by decide
  obtain ⟨b0, b1, b2, b3, b4⟩ := n0
  obtain ⟨c1, c2, c3, c4, c5, c6, c7, c8, c9, c10⟩ := hne
  have e : wordsH a b hs = putV (putV (putV (putV (putV (firstM planH) (celN 0).toNat a) (celN 1).toNat b) (hazP 0).toNat (hs 0)) (hazP 1).toNat (hs 1)) (hazP 2).toNat (hs 2) := rfl
  have hl : (firstM planH).length = 376 := firstH_len
  refine ⟨fun i hi => ?_, ?_, ?_⟩
  · refine hget _ _ (hazP_in hi).1 ?_
    rw [e]
    match i, hi with
    | 0, _ => rw [hmap _ _ _ _ (by simp only [putV_len]; omega), if_neg c2, hmap _ _ _ _ (by simp only [putV_len]; omega), if_neg c1, hmap _ _ _ _ (by simp only [putV_len]; omega), if_pos rfl]
    | 1, _ => rw [hmap _ _ _ _ (by simp only [putV_len]; omega), if_neg c3, hmap _ _ _ _ (by simp only [putV_len]; omega), if_pos rfl]
    | 2, _ => rw [hmap _ _ _ _ (by simp only [putV_len]; omega), if_pos rfl]
  · refine hget _ _ (by decide) ?_
    rw [e, hmap _ _ _ _ (by simp only [putV_len]; omega), if_neg c6, hmap _ _ _ _ (by simp only [putV_len]; omega), if_neg c5, hmap _ _ _ _ (by simp only [putV_len]; omega), if_neg c4, hmap _ _ _ _ (by simp only [putV_len]; omega), if_neg c10, hmap _ _ _ _ (by omega), if_pos rfl]
  · refine hget _ _ (by decide) ?_
    rw [e, hmap _ _ _ _ (by simp only [putV_len]; omega), if_neg c9, hmap _ _ _ _ (by simp only [putV_len]; omega), if_neg c8, hmap _ _ _ _ (by simp only [putV_len]; omega), if_neg c7, hmap _ _ _ _ (by simp only [putV_len]; omega), if_pos rfl]
def codesH (d : Nat → DoH) : List HzV := [codeH 0 (d 0), codeH 1 (d 1), codeH 2 (d 2)]
noncomputable def worldH (a b : Int) (hs : Nat → Int) (d : Nat → DoH) : WorldM hz := (makeM (C := hz) (machH a b hs) (codesH d)).1
attribute [local irreducible] firstM machH
theorem codeH_good (i : Nat) (d : DoH) : hz.good 0 (codeH i d) := by
  unfold codeH
  split
  · trivial
  · split
    · trivial
    · split
      · exact ⟨⟨Int.le_refl _, Int.le_refl _⟩, Nat.le_refl _⟩
      · exact ⟨Int.le_refl _, Int.le_refl _⟩
theorem worldH_ok (a b : Int) (hs : Nat → Int) (d : Nat → DoH) : WorldOk (worldH a b hs d) 2 ∧ makeM (C := hz) (machH a b hs) (codesH d) = (⟨machH a b hs, (codesH d).map (startM (C := hz)), List.replicate 3 false⟩, 0) := by
  have e : makeM (C := hz) (machH a b hs) (codesH d) = (⟨machH a b hs, (codesH d).map (startM (C := hz)), List.replicate 3 false⟩, 0) := by
    unfold makeM
    rw [if_neg (by rw [machH_views]; show ¬ ((3 : Nat) : Int) < ((3 : Nat) : Int); decide)]
    rfl
  refine ⟨?_, e⟩
  unfold worldH
  rw [e]
  refine ⟨machOk_up (machH_ok a b hs) (by omega), ?_, by simp [codesH], fun t ht => ?_⟩
  · show ((codesH d).map (startM (C := hz))).length ≤ (machH a b hs).mem.views.length
    rw [machH_views, List.length_map]
    exact Nat.le_refl 3
  · obtain ⟨s, hs, rfl⟩ := List.mem_map.1 ht
    have hg : hz.good 0 s := by
      simp only [codesH, List.mem_cons, List.not_mem_nil, or_false] at hs
      rcases hs with rfl | rfl | rfl <;> exact codeH_good _ _
    exact taskOk_up (startOk (C := hz) (n := 0) hg) (by omega)
theorem worldH_hzW (a b : Int) (hs : Nat → Int) (d : Nat → DoH) : HzW d (worldH a b hs d) (fun i => (hzNext (codeH i (d i)) zGot).1) ∧ (worldH a b hs d).m = machH a b hs ∧ (worldH a b hs d).stopped = List.replicate 3 false := by
  obtain ⟨h1, h2⟩ := worldH_ok a b hs d
  have e : worldH a b hs d = ⟨machH a b hs, (codesH d).map (startM (C := hz)), List.replicate 3 false⟩ := by unfold worldH; rw [h2]
  refine ⟨⟨⟨2, h1⟩, ?_, ?_, ?_, fun i y hi => ?_⟩, by rw [e], by rw [e]⟩
  · rw [e]; show 0 < (machH a b hs).mem.views.length; rw [machH_views]; decide
  · rw [e]; exact machH_places a b hs
  · rw [e]; simp [codesH]
  · rw [e] at hi ⊢
    match i, hi with
    | 0, hi =>
      obtain rfl : startM (C := hz) (codeH 0 (d 0)) = y := by simpa [codesH] using hi
      exact hz_start (d 0) (by decide) _
    | 1, hi =>
      obtain rfl : startM (C := hz) (codeH 1 (d 1)) = y := by simpa [codesH] using hi
      exact hz_start (d 1) (by decide) _
    | 2, hi =>
      obtain rfl : startM (C := hz) (codeH 2 (d 2)) = y := by simpa [codesH] using hi
      exact hz_start (d 2) (by decide) _
    | i + 3, hi =>
      have := (List.getElem?_eq_some_iff.1 hi).1
      simp [codesH] at this
      try omega
end Go.Proofs.YtkoibcblmgmdmaaGreatDoor
