/-
  HazardScans by shadows.
-/
import Derived.Test.YtkoibcblmgmdmaaGreatDoorK14f
import Derived.Test.YtkoibcblmgmdmaaGreatDoorK14r
import Derived.Test.YtkoibcblmgmdmaaGreatDoorK14x
import Derived.Test.YtkoibcblmgmdmaaGreatDoorMK3
import Derived.Test.YtkoibcblmgmdmaaGreatDoorMK1
import Derived.Test.YtkoibcblmgmdmaaGreatDoorScHazardScans
import Derived.Test.YtkoibcblmgmdmaaGreatDoorMC
namespace Go.Proofs.YtkoibcblmgmdmaaGreatDoor
set_option linter.unusedSimpArgs false
set_option linter.unusedVariables false
open Go.RowKit Go.Maps
theorem last_snoc {h : List Int} {x : Int} (e : h.getLast? = some x) : ∃ (A : List Int) (a0 : Int), h = A ++ [a0] := ⟨_, _, (List.getLast?_eq_some_iff.1 e).choose_spec⟩
theorem hadN_len (had : Nat → List Int) (b : Bool) (w : WorldM hz) (j : Nat) (h1 : 0 ≤ (had j).length) : (hadN had b w j).length ≤ (had j).length + 1 := by
  unfold hadN
  split
  · split
    · omega
    · simp
  · simp
theorem rows_put (R : Nat → List Int) {h h2 : Nat → List Int} {i : Nat} (v : List Int) (h1 : ∀ j, j < i → R j = h2 j) (hv : h2 i = v) (ho : ∀ j, i ≤ j → R j = h j) :
    ∃ R' : Nat → List Int, R' i = v ∧ (∀ j, j ≠ i → R' j = R j) ∧ (∀ j, j < i + 1 → R' j = h2 j) ∧ ∀ j, i + 1 ≤ j → R' j = h j := by
  refine ⟨fun j => if j = i then v else R j, if_pos rfl, fun j hj => if_neg hj, fun j hj => ?_, fun j hj => ?_⟩
  · by_cases e : j = i
    · subst e; exact (if_pos rfl).trans hv.symm
    · exact (if_neg e).trans (h1 j (by omega))
  · exact (if_neg (by omega)).trans (ho j (by omega))
theorem rows_same {R h2 : Nat → List Int} {i : Nat} (h1 : ∀ j, j < i → R j = h2 j) (hv : R i = h2 i) : ∀ j, j < i + 1 → R j = h2 j := fun j hj => by
  by_cases e : j = i
  · rw [e, hv]
  · exact h1 j (by omega)
abbrev rowI (h : List Int) : Ob := .row 2 1 (h.map eH1)
theorem rowI_snoc (h : List Int) (v : Int) : rowI (h ++ [v]) = .row 2 1 (h.map eH1 ++ [eH1 v]) := by simp [rowI]
def Hs0Inv (L : LayV) (r : Run14) (w : WorldM hz) (h0 h1 h2 : Int) (m : Nat) (S : St) : Prop :=
  ∃ i : Nat, i ≤ 3 ∧ m = 3 - i ∧ ((i = 0 ∧ S = ⟨[(1, .ptr 0 0 0), (3, .ptr 1 0 0), (5, .ptr 2 0 0), (6, .ptr 3 0 0), (36, sI (0 : Nat))], [(0, .box 29 (cRun14 r)), (1, boxW w), (2, .box 51 (eLay L)), (3, .box 54 [.sl 1 0 [], .sl 1 0 [], .sl 1 0 []])], 4⟩) ∨
    (i = 1 ∧ S = ⟨[(1, .ptr 0 0 0), (3, .ptr 1 0 0), (5, .ptr 2 0 0), (6, .ptr 3 0 0), (36, sI (1 : Nat))], [(0, .box 29 (cRun14 r)), (1, boxW w), (2, .box 51 (eLay L)), (3, .box 54 [.own 4, .sl 1 0 [], .sl 1 0 []]), (4, rowI [h0])], 5⟩) ∨
    (i = 2 ∧ S = ⟨[(1, .ptr 0 0 0), (3, .ptr 1 0 0), (5, .ptr 2 0 0), (6, .ptr 3 0 0), (36, sI (2 : Nat))], [(0, .box 29 (cRun14 r)), (1, boxW w), (2, .box 51 (eLay L)), (3, .box 54 [.own 4, .own 5, .sl 1 0 []]), (4, rowI [h0]), (5, rowI [h1])], 6⟩) ∨
    (i = 3 ∧ S = ⟨[(1, .ptr 0 0 0), (3, .ptr 1 0 0), (5, .ptr 2 0 0), (6, .ptr 3 0 0), (36, sI (3 : Nat))], [(0, .box 29 (cRun14 r)), (1, boxW w), (2, .box 51 (eLay L)), (3, .box 54 [.own 4, .own 5, .own 6]), (4, rowI [h0]), (5, rowI [h1]), (6, rowI [h2])], 7⟩))
def Hs1Inv (dd : Nat → DoH) (L : LayV) (l : List PickV) (m : Nat) (S : St) : Prop :=
  ∃ (idx : Nat) (w : WorldM hz) (s : Nat → HzV) (had : Nat → List Int) (bg : Bool) (reads : List Int), idx ≤ l.length ∧ HzW dd w s ∧ WorldOk w (2 + idx) ∧ w.stopped = List.replicate 3 false ∧ ScanI had bg w s reads ∧ (∀ j, j < 3 → (had j).length ≤ 1 + idx) ∧ m = l.length - idx ∧
    S = ⟨[(3, .ptr 0 0 0), (5, .ptr 1 0 0), (6, .ptr 2 0 0), (8, sB bg), (48, .sl 3 2 (l.map ePick)), (49, sI l.length), (50, sI idx)], [(0, boxW w), (1, .box 51 (eLay L)), (2, .box 54 [.own 3, .own 4, .own 5]), (3, rowI (had 0)), (4, rowI (had 1)), (5, rowI (had 2))], 6⟩
def Hs2Inv (L : LayV) (l : List PickV) (idx : Nat) (w : WorldM hz) (B : Bool) (had : Nat → List Int) (m : Nat) (S : St) : Prop :=
  ∃ (i : Nat) (R : Nat → List Int), i ≤ 3 ∧ m = 3 - i ∧ (∀ j, j < i → R j = hadN had B w j) ∧ (∀ j, i ≤ j → R j = had j) ∧
    S = ⟨[(3, .ptr 0 0 0), (5, .ptr 1 0 0), (6, .ptr 2 0 0), (8, sB B), (48, .sl 3 2 (l.map ePick)), (49, sI l.length), (50, sI idx), (73, sI i)], [(0, boxW w), (1, .box 51 (eLay L)), (2, .box 54 [.own 3, .own 4, .own 5]), (3, rowI (R 0)), (4, rowI (R 1)), (5, rowI (R 2))], 6⟩
set_option maxRecDepth 20000 in
set_option maxHeartbeats 16000000 in
theorem ok_HazardScans (r : Run14) (hr : Run14In r) : Ok 3 [.agg (cRun14 r)] (sB true) := by
  refine ok_of_trB Tryz.func3 tr_HazardScans rfl ?_
  have ka := ok_l14awake
  have k0 := ok_l14Great r
  cases hg : great14 r
  case true =>
    rw [hg] at k0
    unfold evFn sc_HazardScans rv_HazardScans
    refine eS fun K1 hn1 hr1 he1 => ?_;refine eO fun K2 hk2 => ?_;refine tL0 ?_;refine hk2 _ ?_;refine hn1 (some ([1], none)) _ ?_;refine eS fun K3 hn3 hr3 he3 => ?_;refine eS fun K4 hn4 hr4 he4 => ?_;refine eO fun K5 hk5 => ?_;refine tC0 1 ?_;refine tL0 ?_;refine Or.inl (Or.inl ⟨_, k0, ?_⟩);refine hk5 _ ?_;refine hn4 (some ([1,18], none)) _ ?_;refine eCt ?_;refine eS fun K6 hn6 hr6 he6 => ?_;refine eO fun K7 hk7 => ?_;refine tS0 1 ?_;refine Or.inl (Or.inl ⟨_, ka, ?_⟩);refine tL0 ?_;refine hk7 _ ?_;refine hn6 (some ([2], none)) _ ?_;refine hr3 _ ?_
    exact sf0
  rw [hg] at k0
  have hlen : r.picks.length ≤ 120 := by have := of_decide_eq_false hg; omega
  obtain ⟨a, b, h0, h1, h2, ⟨k00, c0, n0⟩, d1, d2, l⟩ := r
  obtain ⟨hd0, hd1, hd2⟩ := hr
  simp only at hlen hd0 hd1 hd2
  have hK := shK hz
  have hD0 : DoInH ⟨2, c0, n0⟩ := ⟨by show (0 : Int) ≤ 2 ∧ (2 : Int) ≤ 255; decide, hd0.cell⟩
  have k2 := ok_l14begun a b h0 h1 h2 ⟨2, c0, n0⟩ d1 d2 hD0 hd1 hd2
  have hW0 := (worldH_ok a b (hsOf h0 h1 h2) (dOf ⟨2, c0, n0⟩ d1 d2)).1
  obtain ⟨hZ0, hm0, hst0⟩ := worldH_hzW a b (hsOf h0 h1 h2) (dOf ⟨2, c0, n0⟩ d1 d2)
  have hw0 := (wd_H a b (hsOf h0 h1 h2)).1
  rw [← hm0] at hw0
  have hS0 : ScanI (fun i => [hsOf h0 h1 h2 i]) false (worldH a b (hsOf h0 h1 h2) (dOf ⟨2, c0, n0⟩ d1 d2)) (fun i => (hzNext (codeH i (dOf ⟨2, c0, n0⟩ d1 d2 i)) zGot).1) [] :=
    ⟨⟨_, rfl, rfl, rfl⟩, fun _ => rfl, fun i v h => by simp at h, fun i hi => by rw [hw0 i hi]; rfl⟩
  have kp := ok_l14plan
  have kh : ∀ i : Nat, i < 3 → Ok 17 [.agg (eLay planH), sI ((i + 1 : Nat) : Int)] (sI (hazP i)) := fun i hi => by
    have h9 := ok_layHaz planH ((i : Int) + 1)
    have h8 := haz_planH hi
    unfold hazT at h8
    rw [h8] at h9
    exact h9
  obtain ⟨i9, hi9⟩ := Option.isSome_iff_exists.1 (show (Tryz.prog.info? 53).isSome = true by kernel_rfl)
  have kg : ∀ (x : Operand) (A B C : Sh), A.one = true → B.one = true → C.one = true → GenRel (.slice 54 x none none none) [x] [.fp [A, B, C] 0] (.sl 1 1 [[A], [B], [C]]) := fun x A B C hA hB hC => gen_slice_arr Tryz.underlying54 hi9 (by decide) rfl (fun e he => by
    simp only [List.mem_cons, List.not_mem_nil, or_false] at he
    rcases he with rfl | rfl | rfl
    · exact ⟨rfl, by simp [hA]⟩
    · exact ⟨rfl, by simp [hB]⟩
    · exact ⟨rfl, by simp [hC]⟩) rfl
  obtain ⟨dd, hdd⟩ : ∃ dd, dd = dOf ⟨2, c0, n0⟩ d1 d2 := ⟨_, rfl⟩
  have gk : (dd 0).kind % 4 = 2 := by rw [hdd]; rfl
  rw [← hdd] at k2 hW0 hZ0 hst0 hS0
  clear hdd hg hw0 hm0
  generalize (fun i => (hzNext (codeH i (dd i)) zGot).1) = s0 at hZ0 hS0
  generalize worldH a b (hsOf h0 h1 h2) dd = W0 at k2 hW0 hZ0 hst0 hS0
  generalize planH = L at kp kh
  unfold evFn sc_HazardScans rv_HazardScans
  have F1 := @hK
  refine eS fun K1 hn1 hr1 he1 => ?_;refine eO fun K2 hk2 => ?_;refine tL F1 ?_;refine hk2 _ ?_;refine hn1 (some ([1], none)) _ ?_;refine eS fun K3 hn3 hr3 he3 => ?_;refine eS fun K4 hn4 hr4 he4 => ?_;refine eO fun K5 hk5 => ?_;refine tC 1 F1 ?_;refine tL F1 ?_;refine Or.inl (Or.inl ⟨_, k0, ?_⟩);refine hk5 _ ?_;refine hn4 (some ([1,18], none)) _ ?_;refine eCf ?_;refine hn3 (some ([1], none)) _ ?_;refine eS fun K6 hn6 hr6 he6 => ?_;refine eO fun K7 hk7 => ?_;refine tC 2 F1 ?_;refine tZ F1 ?_;refine hk7 _ ?_;refine hn6 (some ([1], none)) _ ?_;refine eS fun _ hn8 _ _ => ?_;refine eO fun _ hk9 => ?_;refine tC 2 F1 ?_;refine tC 2 F1 ?_;refine tC 2 F1 ?_;refine tS 1 F1 ?_;refine Or.inl (Or.inl ⟨_, k2, ?_⟩);refine tC 5 F1 ?_;refine tL F1 ?_;refine hk9 _ ?_;refine hn8 (some ([1,3,4], none)) _ ?_;refine eS fun _ hn10 _ _ => ?_;refine eS fun _ hn11 _ _ => ?_;refine eO fun _ hk12 => ?_;refine tL F1 ?_;refine hk12 _ ?_;refine hn11 (some ([1,3,34], none)) _ ?_;refine eCf ?_;refine hn10 (some ([1,3], none)) _ ?_;refine eS fun _ hn13 _ _ => ?_;refine eO fun _ hk14 => ?_;refine tS 1 F1 ?_;refine Or.inl (Or.inl ⟨_, kp, ?_⟩);refine tZ F1 ?_;refine hk14 _ ?_;refine hn13 (some ([1,3,5], none)) _ ?_
  refine eS fun _ hn15 _ _ => ?_;refine eO fun _ hk16 => ?_;refine tL F1 ?_;refine hk16 _ ?_;refine hn15 (some ([1,3,5,6], none)) _ ?_;refine eS fun _ hn17 _ _ => ?_;refine eS fun _ hn18 _ _ => ?_;refine eO fun _ hk19 => ?_;refine tL F1 ?_;refine hk19 _ ?_;refine hn18 (some ([1,3,5,6,36], none)) _ ?_;refine eB fun _ _ hx20 _ _ => ?_;refine eW (Hs0Inv L ⟨a, b, h0, h1, h2, ⟨2, c0, n0⟩, d1, d2, l⟩ W0 h0 h1 h2) (3) (some ([1,3,5,6,36], some ([0,1,2,3], 4))) ([]) ?_ ?_
  · try refine lp0 ?_
    exact ⟨0, by omega, by omega, .inl ⟨rfl, by rfl⟩⟩
  · intro k S1 hI
    obtain ⟨i, hi, rfl, hI⟩ := hI
    intro _ hn21 _ he21
    rcases hI with ⟨rfl, rfl⟩ | ⟨rfl, rfl⟩ | ⟨rfl, rfl⟩ | ⟨rfl, rfl⟩
    · skip
      have t1 : ((0 : Nat) : Int) < 3 := by decide
      have t2 : IntKind.i64.wrap (((0 : Nat) : Int) + 1) = ((0 + 1 : Nat) : Int) := by decide
      have t3 : (0 : Int) ≤ ((0 : Nat) : Int) := by decide
      have F2 := And.intro F1 (And.intro @t1 (And.intro @t2 @t3))
      refine eS fun _ hn22 _ _ => ?_;refine eO fun _ hk23 => ?_;refine tZ F2 ?_;refine hk23 _ ?_;refine hn22 (some ([1,3,5,6,36,37], none)) _ ?_;refine eS fun _ hn24 _ _ => ?_;refine eCt ?_;refine hn24 (some ([1,3,5,6,36], none)) _ ?_;refine eS fun _ hn25 _ _ => ?_;refine eB fun _ hn26 _ _ _ => ?_;refine eS fun _ hn27 _ _ => ?_;refine eO fun _ hk28 => ?_;refine tL F2 ?_;refine hk28 _ ?_;refine hn27 (some ([1,3,5,6,7,36], none)) _ ?_;refine eO fun _ hk29 => ?_;refine tC 4 F2 ?_;refine tC 1 F2 ?_;refine tC 2 F2 ?_;refine tZ F2 ?_;refine hk29 _ ?_;refine hn26 _ ?_;refine hn25 (some ([1,3,5,6,36], none)) _ ?_;refine eO fun _ hk30 => ?_;refine tC 1 F2 ?_;refine tL F2 ?_;refine hk30 _ ?_;refine hn21 (3 - (0 + 1)) (some ([1,3,5,6,36], some ([0,1,2,3,4], 5))) _ ?_ ?_
      all_goals try refine lp0 ?_
      · omega
      · exact ⟨0 + 1, by omega, by omega, .inr (.inl ⟨rfl, by rfl⟩)⟩
    · skip
      have t1 : ((1 : Nat) : Int) < 3 := by decide
      have t2 : IntKind.i64.wrap (((1 : Nat) : Int) + 1) = ((1 + 1 : Nat) : Int) := by decide
      have t3 : (0 : Int) ≤ ((1 : Nat) : Int) := by decide
      have F3 := And.intro F1 (And.intro @t1 (And.intro @t2 @t3))
      refine eS fun _ hn31 _ _ => ?_;refine eO fun _ hk32 => ?_;refine tZ F3 ?_;refine hk32 _ ?_;refine hn31 (some ([1,3,5,6,36,37], none)) _ ?_;refine eS fun _ hn33 _ _ => ?_;refine eCt ?_;refine hn33 (some ([1,3,5,6,36], none)) _ ?_;refine eS fun _ hn34 _ _ => ?_;refine eB fun _ hn35 _ _ _ => ?_;refine eS fun _ hn36 _ _ => ?_;refine eO fun _ hk37 => ?_;refine tL F3 ?_;refine hk37 _ ?_;refine hn36 (some ([1,3,5,6,7,36], none)) _ ?_;refine eO fun _ hk38 => ?_;refine tC 4 F3 ?_;refine tC 1 F3 ?_;refine tC 2 F3 ?_;refine tZ F3 ?_;refine hk38 _ ?_;refine hn35 _ ?_;refine hn34 (some ([1,3,5,6,36], none)) _ ?_;refine eO fun _ hk39 => ?_;refine tC 1 F3 ?_;refine tL F3 ?_;refine hk39 _ ?_;refine hn21 (3 - (1 + 1)) (some ([1,3,5,6,36], some ([0,1,2,3,4,5], 6))) _ ?_ ?_
      all_goals try refine lp0 ?_
      · omega
      · exact ⟨1 + 1, by omega, by omega, .inr (.inr (.inl ⟨rfl, by rfl⟩))⟩
    · skip
      have t1 : ((2 : Nat) : Int) < 3 := by decide
      have t2 : IntKind.i64.wrap (((2 : Nat) : Int) + 1) = ((2 + 1 : Nat) : Int) := by decide
      have t3 : (0 : Int) ≤ ((2 : Nat) : Int) := by decide
      have F4 := And.intro F1 (And.intro @t1 (And.intro @t2 @t3))
      refine eS fun _ hn40 _ _ => ?_;refine eO fun _ hk41 => ?_;refine tZ F4 ?_;refine hk41 _ ?_;refine hn40 (some ([1,3,5,6,36,37], none)) _ ?_;refine eS fun _ hn42 _ _ => ?_;refine eCt ?_;refine hn42 (some ([1,3,5,6,36], none)) _ ?_;refine eS fun _ hn43 _ _ => ?_;refine eB fun _ hn44 _ _ _ => ?_;refine eS fun _ hn45 _ _ => ?_;refine eO fun _ hk46 => ?_;refine tL F4 ?_;refine hk46 _ ?_;refine hn45 (some ([1,3,5,6,7,36], none)) _ ?_;refine eO fun _ hk47 => ?_;refine tC 4 F4 ?_;refine tC 1 F4 ?_;refine tC 2 F4 ?_;refine tZ F4 ?_;refine hk47 _ ?_;refine hn44 _ ?_;refine hn43 (some ([1,3,5,6,36], none)) _ ?_;refine eO fun _ hk48 => ?_;refine tC 1 F4 ?_;refine tL F4 ?_;refine hk48 _ ?_;refine hn21 (3 - (2 + 1)) (some ([1,3,5,6,36], some ([0,1,2,3,4,5,6], 7))) _ ?_ ?_
      all_goals try refine lp0 ?_
      · omega
      · exact ⟨2 + 1, by omega, by omega, .inr (.inr (.inr ⟨rfl, by rfl⟩))⟩
    · skip
      have t1 : ¬ ((3 : Nat) : Int) < 3 := by decide
      have F5 := And.intro F1 @t1
      refine eS fun _ hn49 _ _ => ?_;refine eO fun _ hk50 => ?_;refine tZ F5 ?_;refine hk50 _ ?_;refine hn49 (some ([1,3,5,6,36,37], none)) _ ?_;refine eS fun _ _ _ he51 => ?_;refine eCf ?_;refine he51 0 _ ?_;refine he21 0 _ ?_;refine hx20 _ ?_;refine hn17 (some ([1,3,5,6], none)) _ ?_;refine eS fun _ hn52 _ _ => ?_;refine eO fun _ hk53 => ?_;refine tL F5 ?_;refine hk53 _ ?_;refine hn52 (some ([1,3,5,6,8], none)) _ ?_;refine eS fun _ hn54 _ _ => ?_;refine eS fun _ hn55 _ _ => ?_;refine eO fun _ hk56 => ?_;refine tC 2 F5 ?_;refine tL F5 ?_;refine hk56 _ ?_;refine hn55 (some ([3,5,6,8,48,49,50], none)) _ ?_;refine eB fun _ _ hx57 _ _ => ?_;refine eW (Hs1Inv dd L l) (l.length) (some ([3,5,6,8,48,49,50], some ([1,2,3,4,5,6], 6))) ([]) ?_ ?_
      · try refine lp0 ?_
        exact ⟨0, W0, s0, _, false, [], by omega, hZ0, hW0, hst0, hS0, fun j hj => by simp, by omega, by rfl⟩
      · intro k S1 hI
        obtain ⟨idx, w, s, had, bg, reads, hix, hZ, hW, hst, hS, hlen, rfl, rfl⟩ := hI
        have hcase : idx = l.length ∨ (∃ p, l[idx]? = some p ∧ p.kind ≠ 0) ∨ (∃ p, l[idx]? = some p ∧ p.kind = 0 ∧ bg = false ∧ p.thread = 1) ∨ (∃ p, l[idx]? = some p ∧ p.kind = 0 ∧ bg = false ∧ p.thread ≠ 1) ∨ (∃ p, l[idx]? = some p ∧ p.kind = 0 ∧ bg = true) := by
          rcases Nat.lt_or_ge idx l.length with h | h
          · by_cases hk : (l[idx]).kind = 0
            · cases bg
              · by_cases ht : (l[idx]).thread = 1
                · exact .inr (.inr (.inl ⟨_, List.getElem?_eq_getElem h, hk, rfl, ht⟩))
                · exact .inr (.inr (.inr (.inl ⟨_, List.getElem?_eq_getElem h, hk, rfl, ht⟩)))
              · exact .inr (.inr (.inr (.inr ⟨_, List.getElem?_eq_getElem h, hk, rfl⟩)))
            · exact .inr (.inl ⟨_, List.getElem?_eq_getElem h, hk⟩)
          · exact .inl (by omega)
        intro _ hn58 _ he58
        rcases hcase with hcc | ⟨p, hp1, hp2⟩ | ⟨p, hp1, hp2, rfl, ht1⟩ | ⟨p, hp1, hp2, rfl, ht1⟩ | ⟨p, hp1, hp2, rfl⟩
        · skip
          have x2 : ¬ (idx : Int) < (l.length : Int) := by omega
          have hW1 := worldOk_up hW (show 2 + idx ≤ 2 + 120 by omega)
          obtain ⟨s9, x9, hZ9, hd9, hx9, hf9, hfit⟩ := scans_alone hZ gk (by unfold stoppedM; rw [hst]; rfl) hS (k := 6) (by decide)
          change (aloneM w (((0 : Nat) : Int) + 1) 6).2 = true at hd9
          change HzW dd (aloneM w (((0 : Nat) : Int) + 1) 6).1 s9 at hZ9
          have k8 := ok_kAlone w (((0 : Nat) : Int) + 1) 6 hW1 (by show 2 + 120 + 6 ≤ 900; decide)
          have hW9 := alone_ok hW1 (((0 : Nat) : Int) + 1) 6
          rw [hd9] at k8
          change Ok _ [_, sI 1, _] _ at k8
          generalize (aloneM w (((0 : Nat) : Int) + 1) 6).1 = w9 at k8 hZ9 hW9
          obtain ⟨y9, hy9, hT9⟩ := hZ9.get (i := 0) (by decide)
          have k9 := ok_kCode y9
          rw [hT9.code, hx9] at k9
          have hgx := (hW9.task y9 (List.mem_of_getElem? hy9)).good (s9 0) hT9.code
          rw [hx9] at hgx
          have hgx2 : x9.held.length ≤ 1000 := by have h9 : ScanOk _ x9 := hgx; have := h9.held; simp at this; omega
          have k10 := ok_hzHeld (.scan x9) (fun z hz => by cases hz; exact hgx2)
          rw [show heldH (.scan x9) = some x9.held from if_pos hf9] at k10
          change Ok _ [eCode hz (some (.scan x9))] (.tup [.sl 1 0 (x9.held.map eH1), sB true]) at k10
          have kf := ok_l14fits [(0, had 0), (0, had 1), (0, had 2)] (fun q hq => by
            simp only [List.mem_cons, List.not_mem_nil, or_false] at hq
            rcases hq with rfl | rfl | rfl
            · exact Nat.le_trans (hlen 0 (by decide)) (by omega)
            · exact Nat.le_trans (hlen 1 (by decide)) (by omega)
            · exact Nat.le_trans (hlen 2 (by decide)) (by omega)) x9.held 0 1
          change Ok _ _ (sB (fitsM x9.held [had 0, had 1, had 2])) at kf
          rw [hfit] at kf
          change Ok _ [_, .sl 1 1 [[.sl 1 0 ((had 0).map eH1)], [.sl 1 0 ((had 1).map eH1)], [.sl 1 0 ((had 2).map eH1)]]] _ at kf
          have v1 : (w9.tasks.length : Int) = 3 := by have := hZ9.len; omega
          have v2 : 0 < w9.tasks.length := by omega
          have v3 : (0 : Int) < 3 := by decide
          generalize x9.held = hd9l at k10 kf
          have F6 := And.intro F5 (And.intro @x2 (And.intro @v1 (And.intro @v2 (And.intro @v3 @hy9))))
          refine eS fun _ hn59 _ _ => ?_;refine eO fun _ hk60 => ?_;refine tZ F6 ?_;refine hk60 _ ?_;refine hn59 (some ([3,5,6,8,48,49,50,51], none)) _ ?_;refine eS fun _ _ _ he61 => ?_;refine eCf ?_;refine he61 2 _ ?_;refine he58 2 _ ?_;refine hx57 _ ?_;refine hn54 (some ([3,6], none)) _ ?_;refine eS fun _ hn62 _ _ => ?_;refine eO fun _ hk63 => ?_;refine tC 1 F6 ?_;refine tS 1 F6 ?_;refine Or.inl (Or.inl ⟨_, k8, ?_⟩);refine tC 5 F6 ?_;refine tL F6 ?_;refine hk63 _ ?_;refine hn62 (some ([6,13,14], none)) _ ?_;refine eS fun _ hn64 _ _ => ?_;refine eS fun _ hn65 _ _ => ?_;refine eO fun _ hk66 => ?_;refine tC 2 F6 ?_;refine tZ F6 ?_;refine hk66 _ ?_;refine hn65 (some ([6,13,14,123], none)) _ ?_;refine eCf ?_;refine hn64 (some ([6,13,14], none)) _ ?_;refine eS fun _ hn67 _ _ => ?_;refine eO fun _ hk68 => ?_;refine tC 2 F6 ?_;refine tC 1 F6 ?_;refine tC 1 F6 ?_;refine tS 1 F6 ?_;refine Or.inl (Or.inl ⟨_, k9, ?_⟩);refine tS 1 F6 ?_;refine Or.inl (Or.inl ⟨_, k10, ?_⟩);refine tL F6 ?_;refine hk68 _ ?_;refine hn67 (some ([6,14,15,16], none)) _ ?_;refine eS fun _ hn69 _ _ => ?_;refine eS fun _ hn70 _ _ => ?_;refine eO fun _ hk71 => ?_
          refine tL F6 ?_;refine hk71 _ ?_;refine hn70 (some ([6,15,138], none)) _ ?_;refine eCf ?_;refine hn69 (some ([6,15], none)) _ ?_;refine eS fun _ hn72 _ _ => ?_;refine eO fun _ hk73 => ?_;refine tS 1 F6 ?_;refine tS 1 F6 ?_;refine ⟨_, kg _ _ _ _ rfl rfl rfl, ?_⟩;refine tS 1 F6 ?_;refine Or.inl (Or.inl ⟨_, kf, ?_⟩);refine tS 1 F6 ?_;refine tS 1 F6 ?_;refine Or.inl (Or.inl ⟨_, ka, ?_⟩);refine tL F6 ?_;refine hk73 _ ?_;refine hn72 (some ([2], none)) _ ?_
          exact sf1 F6
        · skip
          have hcc := (List.getElem?_eq_some_iff.1 hp1).1
          have x2 : (idx : Int) < (l.length : Int) := by omega
          have x3 : IntKind.i64.wrap ((idx : Int) + 1) = ((idx + 1 : Nat) : Int) := by rw [IntKind.wrap_i64]; omega
          have x4 : (p.kind != 0) = true := by simpa using hp2
          have F7 := And.intro F5 (And.intro @x2 (And.intro @x3 (And.intro @hp1 @x4)))
          refine eS fun _ hn74 _ _ => ?_;refine eO fun _ hk75 => ?_;refine tZ F7 ?_;refine hk75 _ ?_;refine hn74 (some ([3,5,6,8,48,49,50,51], none)) _ ?_;refine eS fun _ hn76 _ _ => ?_;refine eCt ?_;refine hn76 (some ([3,5,6,8,48,49,50], none)) _ ?_;refine eS fun _ hn77 _ _ => ?_;refine eB fun _ _ hx78 _ _ => ?_;refine eS fun _ hn79 _ _ => ?_;refine eO fun _ hk80 => ?_;refine tC 1 F7 ?_;refine tC 1 F7 ?_;refine tZ F7 ?_;refine hk80 _ ?_;refine hn79 (some ([3,5,6,8,10,48,49,50], none)) _ ?_;refine eS fun _ _ _ he81 => ?_;refine eS fun _ hn82 _ _ => ?_;refine eO fun _ hk83 => ?_;refine tC 2 F7 ?_;refine tZ F7 ?_;refine hk83 _ ?_;refine hn82 (some ([3,5,6,8,10,48,49,50,56], none)) _ ?_;refine eCt ?_;refine he81 3 _ ?_;refine hx78 _ ?_;refine hn77 (some ([3,5,6,8,48,49,50], none)) _ ?_;refine eO fun _ hk84 => ?_;refine tC 1 F7 ?_;refine tL F7 ?_;refine hk84 _ ?_;refine hn58 (l.length - (idx + 1)) (some ([3,5,6,8,48,49,50], some ([0,1,2,3,4,5], 6))) _ ?_ ?_
          all_goals try refine lp0 ?_
          · omega
          · exact ⟨idx + 1, w, s, had, bg, reads, by omega, hZ, worldOk_up hW (by omega), hst, hS, fun j hj => by have := hlen j hj; omega, by omega, by rfl⟩
        · skip
          have hcc := (List.getElem?_eq_some_iff.1 hp1).1
          have x2 : (idx : Int) < (l.length : Int) := by omega
          have x3 : IntKind.i64.wrap ((idx : Int) + 1) = ((idx + 1 : Nat) : Int) := by rw [IntKind.wrap_i64]; omega
          have x4 : (p.kind != 0) = false := by simpa using hp2
          have x5 : (p.thread == 1) = true := by simpa using ht1
          have k3 := ok_kStep w p hW (by omega)
          have hW' := stepOk hW p
          obtain ⟨s', hZ', hS'⟩ := hzW_step hZ p (by omega)
          obtain ⟨reads', hI'⟩ := scans_step hZ gk hS' hp2 hS
          have hst' := step_stopped (d := dd) hp2 hS' hst
          have hB : (false || p.thread == 1) = true := by rw [x5]; rfl
          rw [hB] at hI'
          clear hS'
          generalize (stepM w p).2 = bb at k3
          generalize (stepM w p).1 = w' at k3 hZ' hW' hI' hst'
          obtain ⟨y0, hy0, hT0⟩ := hZ'.get (i := 0) (by decide)
          have k7 := ok_kDone y0
          have hlen' : ∀ j, j < 3 → (hadN had true w' j).length ≤ 1 + (idx + 1) := fun j hj => Nat.le_trans (hadN_len had true w' j (by have := hlen j hj; omega)) (by have := hlen j hj; omega)
          obtain ⟨hq, hqe⟩ : ∃ hq, hq = hadN had true w' := ⟨_, rfl⟩
          rw [← hqe] at hI' hlen'
          have x6 : (w'.tasks.length : Int) = 3 := by have := hZ'.len; omega
          have x7 : 0 < w'.tasks.length := by omega
          have x8 : (0 : Int) < 3 := by decide
          have F8 := And.intro F5 (And.intro @x2 (And.intro @x3 (And.intro @hp1 (And.intro @x4 (And.intro @x6 (And.intro @x7 (And.intro @x8 (And.intro @hy0 @x5))))))))
          refine eS fun _ hn85 _ _ => ?_;refine eO fun _ hk86 => ?_;refine tZ F8 ?_;refine hk86 _ ?_;refine hn85 (some ([3,5,6,8,48,49,50,51], none)) _ ?_;refine eS fun _ hn87 _ _ => ?_;refine eCt ?_;refine hn87 (some ([3,5,6,8,48,49,50], none)) _ ?_;refine eS fun _ hn88 _ he88 => ?_;refine eB fun _ hn89 _ _ he89 => ?_;refine eS fun _ hn90 _ _ => ?_;refine eO fun _ hk91 => ?_;refine tC 1 F8 ?_;refine tC 1 F8 ?_;refine tZ F8 ?_;refine hk91 _ ?_;refine hn90 (some ([3,5,6,8,10,48,49,50], none)) _ ?_;refine eS fun _ hn92 _ _ => ?_;refine eS fun _ hn93 _ _ => ?_;refine eO fun _ hk94 => ?_;refine tC 2 F8 ?_;refine tZ F8 ?_;refine hk94 _ ?_;refine hn93 (some ([3,5,6,8,10,48,49,50,56], none)) _ ?_;refine eCf ?_;refine hn92 (some ([3,5,6,8,10,48,49,50], none)) _ ?_;refine eS fun _ hn95 _ _ => ?_;refine eO fun _ hk96 => ?_;refine tC 1 F8 ?_;refine tC 1 F8 ?_;refine tS 1 F8 ?_;refine Or.inl (Or.inl ⟨_, k3, ?_⟩);refine tZ F8 ?_;refine hk96 _ ?_;refine hn95 (some ([3,5,6,8,10,48,49,50], none)) _ ?_;refine eS fun _ hn97 _ _ => ?_;refine eS fun _ hn98 _ _ => ?_;refine eO fun _ hk99 => ?_
          refine tC 2 F8 ?_;refine tZ F8 ?_;refine hk99 _ ?_;refine hn98 (some ([3,5,6,8,10,48,49,50,66], none)) _ ?_;refine eCf ?_;refine hn97 (some ([3,5,6,8,10,48,49,50], none)) _ ?_;refine eS fun _ hn100 _ _ => ?_;refine eO fun _ hk101 => ?_;refine tC 4 F8 ?_;refine tC 1 F8 ?_;refine tL F8 ?_;refine hk101 _ ?_;refine hn100 (some ([3,5,6,8,48,49,50], none)) _ ?_;refine eS fun _ hn102 _ _ => ?_;refine eS fun _ hn103 _ _ => ?_;refine eO fun _ hk104 => ?_;refine tL F8 ?_;refine hk104 _ ?_;refine hn103 (some ([3,5,6,8,48,49,50,73], none)) _ ?_;refine eB fun _ _ hx105 _ _ => ?_;refine eW (Hs2Inv L l idx w' true had) (3) (some ([3,5,6,8,48,49,50,73], some ([0,1,2,3,4,5], 6))) ([]) ?_ ?_
          · try refine lp0 ?_
            exact ⟨0, had, by omega, by omega, fun j hj => absurd hj (by omega), fun _ _ => rfl, by rfl⟩
          · intro k S1 hI
            obtain ⟨i, R, hi, rfl, hR1, hR2, rfl⟩ := hI
            have hcas2 : (i = 3 ∧ y0.live = true) ∨ (i = 3 ∧ y0.live = false) ∨ (i = 0 ∧ (had 0).getLast? = some (Wd w'.m (hazP 0)).val) ∨ (i = 0 ∧ ¬ (had 0).getLast? = some (Wd w'.m (hazP 0)).val) ∨ (i = 1 ∧ (had 1).getLast? = some (Wd w'.m (hazP 1)).val) ∨ (i = 1 ∧ ¬ (had 1).getLast? = some (Wd w'.m (hazP 1)).val) ∨ (i = 2 ∧ (had 2).getLast? = some (Wd w'.m (hazP 2)).val) ∨ (i = 2 ∧ ¬ (had 2).getLast? = some (Wd w'.m (hazP 2)).val) := by
              have h3 : i = 3 ∨ i = 0 ∨ i = 1 ∨ i = 2 := by omega
              rcases h3 with rfl | rfl | rfl | rfl
              · cases y0.live
                · exact .inr (.inl ⟨rfl, rfl⟩)
                · exact .inl ⟨rfl, rfl⟩
              · by_cases h9 : (had 0).getLast? = some (Wd w'.m (hazP 0)).val
                · exact .inr (.inr (.inl ⟨rfl, h9⟩))
                · exact .inr (.inr (.inr (.inl ⟨rfl, h9⟩)))
              · by_cases h9 : (had 1).getLast? = some (Wd w'.m (hazP 1)).val
                · exact .inr (.inr (.inr (.inr (.inl ⟨rfl, h9⟩))))
                · exact .inr (.inr (.inr (.inr (.inr (.inl ⟨rfl, h9⟩)))))
              · by_cases h9 : (had 2).getLast? = some (Wd w'.m (hazP 2)).val
                · exact .inr (.inr (.inr (.inr (.inr (.inr (.inl ⟨rfl, h9⟩))))))
                · exact .inr (.inr (.inr (.inr (.inr (.inr (.inr ⟨rfl, h9⟩))))))
            intro _ hn106 _ he106
            rcases hcas2 with ⟨rfl, hlv⟩ | ⟨rfl, hlv⟩ | ⟨rfl, hsame⟩ | ⟨rfl, hdiff⟩ | ⟨rfl, hsame⟩ | ⟨rfl, hdiff⟩ | ⟨rfl, hsame⟩ | ⟨rfl, hdiff⟩
            · skip
              have t1 : ¬ ((3 : Nat) : Int) < 3 := by decide
              rw [hlv] at k7
              have F9 := And.intro F8 @t1
              refine eS fun _ hn107 _ _ => ?_;refine eO fun _ hk108 => ?_;refine tZ F9 ?_;refine hk108 _ ?_;refine hn107 (some ([3,5,6,8,48,49,50,73,74], none)) _ ?_;refine eS fun _ _ _ he109 => ?_;refine eCf ?_;refine he109 4 _ ?_;refine he106 4 _ ?_;refine hx105 _ ?_;refine hn102 (some ([3,5,6,8,48,49,50], none)) _ ?_;refine eS fun _ hn110 _ _ => ?_;refine eO fun _ hk111 => ?_;refine tC 2 F9 ?_;refine tC 1 F9 ?_;refine tC 1 F9 ?_;refine tL F9 ?_;refine Or.inl (Or.inl ⟨_, k7, ?_⟩);refine hk111 _ ?_;refine hn110 (some ([3,5,6,8,48,49,50,113], none)) _ ?_;refine eCf ?_;refine hn89 _ ?_;refine hn88 (some ([3,5,6,8,48,49,50], none)) _ ?_;refine eO fun _ hk112 => ?_;refine tC 1 F9 ?_;refine tL F9 ?_;refine hk112 _ ?_;refine hn58 (l.length - (idx + 1)) (some ([3,5,6,8,48,49,50], some ([0,1,2,3,4,5], 6))) _ ?_ ?_
              all_goals try refine lp0 ?_
              · omega
              · exact ⟨idx + 1, w', s', hq, _, reads', by omega, hZ', by have e9 : 2 + (idx + 1) = 2 + idx + 1 := rfl; rw [e9]; exact hW', hst', hI', hlen', by omega, by rw [hqe, ← hR1 0 (by decide), ← hR1 1 (by decide), ← hR1 2 (by decide)]⟩
            · skip
              have t1 : ¬ ((3 : Nat) : Int) < 3 := by decide
              rw [hlv] at k7
              have hW2 := worldOk_up hW' (show 2 + idx + 1 ≤ 2 + 120 by omega)
              obtain ⟨s9, x9, hZ9, hd9, hx9, hf9, hfit⟩ := scans_alone hZ' gk (by unfold stoppedM; rw [hst']; rfl) hI' (k := 6) (by decide)
              change (aloneM w' (((0 : Nat) : Int) + 1) 6).2 = true at hd9
              change HzW dd (aloneM w' (((0 : Nat) : Int) + 1) 6).1 s9 at hZ9
              have k8 := ok_kAlone w' (((0 : Nat) : Int) + 1) 6 hW2 (by show 2 + 120 + 6 ≤ 900; decide)
              have hW9 := alone_ok hW2 (((0 : Nat) : Int) + 1) 6
              rw [hd9] at k8
              change Ok _ [_, sI 1, _] _ at k8
              generalize (aloneM w' (((0 : Nat) : Int) + 1) 6).1 = w9 at k8 hZ9 hW9
              obtain ⟨y9, hy9, hT9⟩ := hZ9.get (i := 0) (by decide)
              have k9 := ok_kCode y9
              rw [hT9.code, hx9] at k9
              have hgx := (hW9.task y9 (List.mem_of_getElem? hy9)).good (s9 0) hT9.code
              rw [hx9] at hgx
              have hgx2 : x9.held.length ≤ 1000 := by have h9 : ScanOk _ x9 := hgx; have := h9.held; simp at this; omega
              have k10 := ok_hzHeld (.scan x9) (fun z hz => by cases hz; exact hgx2)
              rw [show heldH (.scan x9) = some x9.held from if_pos hf9] at k10
              change Ok _ [eCode hz (some (.scan x9))] (.tup [.sl 1 0 (x9.held.map eH1), sB true]) at k10
              have kf := ok_l14fits [(0, hq 0), (0, hq 1), (0, hq 2)] (fun q hq => by
                simp only [List.mem_cons, List.not_mem_nil, or_false] at hq
                rcases hq with rfl | rfl | rfl
                · exact Nat.le_trans (hlen' 0 (by decide)) (by omega)
                · exact Nat.le_trans (hlen' 1 (by decide)) (by omega)
                · exact Nat.le_trans (hlen' 2 (by decide)) (by omega)) x9.held 0 1
              change Ok _ _ (sB (fitsM x9.held [hq 0, hq 1, hq 2])) at kf
              rw [hfit] at kf
              change Ok _ [_, .sl 1 1 [[.sl 1 0 ((hq 0).map eH1)], [.sl 1 0 ((hq 1).map eH1)], [.sl 1 0 ((hq 2).map eH1)]]] _ at kf
              rw [show hq 0 = R 0 by rw [hqe]; exact (hR1 0 (by decide)).symm, show hq 1 = R 1 by rw [hqe]; exact (hR1 1 (by decide)).symm, show hq 2 = R 2 by rw [hqe]; exact (hR1 2 (by decide)).symm] at kf
              have v1 : (w9.tasks.length : Int) = 3 := by have := hZ9.len; omega
              have v2 : 0 < w9.tasks.length := by omega
              have v3 : (0 : Int) < 3 := by decide
              generalize x9.held = hd9l at k10 kf
              have F10 := And.intro F8 (And.intro @t1 (And.intro @v1 (And.intro @v2 (And.intro @v3 @hy9))))
              refine eS fun _ hn113 _ _ => ?_;refine eO fun _ hk114 => ?_;refine tZ F10 ?_;refine hk114 _ ?_;refine hn113 (some ([3,5,6,8,48,49,50,73,74], none)) _ ?_;refine eS fun _ _ _ he115 => ?_;refine eCf ?_;refine he115 4 _ ?_;refine he106 4 _ ?_;refine hx105 _ ?_;refine hn102 (some ([3,5,6,8,48,49,50], none)) _ ?_;refine eS fun _ hn116 _ _ => ?_;refine eO fun _ hk117 => ?_;refine tC 2 F10 ?_;refine tC 1 F10 ?_;refine tC 1 F10 ?_;refine tL F10 ?_;refine Or.inl (Or.inl ⟨_, k7, ?_⟩);refine hk117 _ ?_;refine hn116 (some ([3,5,6,8,48,49,50,113], none)) _ ?_;refine eCt ?_;refine he89 2 _ (by decide) ?_;refine he88 2 _ ?_;refine he58 2 _ ?_;refine hx57 _ ?_;refine hn54 (some ([3,6], none)) _ ?_;refine eS fun _ hn118 _ _ => ?_;refine eO fun _ hk119 => ?_;refine tC 1 F10 ?_;refine tS 1 F10 ?_;refine Or.inl (Or.inl ⟨_, k8, ?_⟩);refine tC 5 F10 ?_;refine tL F10 ?_;refine hk119 _ ?_;refine hn118 (some ([6,13,14], none)) _ ?_;refine eS fun _ hn120 _ _ => ?_;refine eS fun _ hn121 _ _ => ?_;refine eO fun _ hk122 => ?_;refine tC 2 F10 ?_;refine tZ F10 ?_;refine hk122 _ ?_;refine hn121 (some ([6,13,14,123], none)) _ ?_
              refine eCf ?_;refine hn120 (some ([6,13,14], none)) _ ?_;refine eS fun _ hn123 _ _ => ?_;refine eO fun _ hk124 => ?_;refine tC 2 F10 ?_;refine tC 1 F10 ?_;refine tC 1 F10 ?_;refine tS 1 F10 ?_;refine Or.inl (Or.inl ⟨_, k9, ?_⟩);refine tS 1 F10 ?_;refine Or.inl (Or.inl ⟨_, k10, ?_⟩);refine tL F10 ?_;refine hk124 _ ?_;refine hn123 (some ([6,14,15,16], none)) _ ?_;refine eS fun _ hn125 _ _ => ?_;refine eS fun _ hn126 _ _ => ?_;refine eO fun _ hk127 => ?_;refine tL F10 ?_;refine hk127 _ ?_;refine hn126 (some ([6,15,138], none)) _ ?_;refine eCf ?_;refine hn125 (some ([6,15], none)) _ ?_;refine eS fun _ hn128 _ _ => ?_;refine eO fun _ hk129 => ?_;refine tS 1 F10 ?_;refine tS 1 F10 ?_;refine ⟨_, kg _ _ _ _ rfl rfl rfl, ?_⟩;refine tS 1 F10 ?_;refine Or.inl (Or.inl ⟨_, kf, ?_⟩);refine tS 1 F10 ?_;refine tS 1 F10 ?_;refine Or.inl (Or.inl ⟨_, ka, ?_⟩);refine tL F10 ?_;refine hk129 _ ?_;refine hn128 (some ([2], none)) _ ?_
              exact sf1 F10
            · skip
              have t1 : ((0 : Nat) : Int) < 3 := by decide
              have t2 : IntKind.i64.wrap (((0 : Nat) : Int) + 1) = ((0 + 1 : Nat) : Int) := by decide
              have t3 : (0 : Int) ≤ ((0 : Nat) : Int) := by decide
              have kh2 := kh 0 (by decide)
              have kv := ok_l14val w' (hazP 0) hW' (by omega)
              have hRi : R 0 = had 0 := hR2 0 (by decide)
              obtain ⟨A, a0, hA⟩ : ∃ (A : List Int) (a0 : Int), had 0 = A ++ [a0] := last_snoc (hS.now 0 (by decide))
              have hln := hlen 0 (by decide)
              rw [hA] at hln
              simp only [List.length_append, List.length_singleton] at hln
              have y1 : (R 0)[A.length]? = some a0 := by rw [hRi, hA, List.getElem?_append_right (Nat.le_refl _), Nat.sub_self]; rfl
              have y2 : (R 0).length = A.length + 1 := by rw [hRi, hA]; simp
              have y3 : IntKind.i64.wrap (((A.length + 1 : Nat) : Int) - 1) = (A.length : Int) := by rw [IntKind.wrap_i64]; omega
              have y4 : A.length < A.length + 1 := by omega
              have y5 : (A.length : Int) < ((A.length + 1 : Nat) : Int) := by omega
              have y6 : A.length + 1 + 1 ≤ 1000000 := by omega
              have y7 : (A.length + 1 + 1) * 8 ≤ 140737488355328 := by omega
              have hN : hadN had true w' 0 = had 0 := by
                unfold hadN
                rw [if_pos rfl, if_pos hsame]
              have y8 : (a0 != (Wd w'.m (hazP 0)).val) = false := by rw [hA, List.getLast?_append] at hsame; simpa using hsame
              generalize (Wd w'.m (hazP 0)).val = v at kv y8
              have F11 := And.intro F8 (And.intro @t1 (And.intro @t2 (And.intro @t3 (And.intro @y1 (And.intro @y2 (And.intro @y3 (And.intro @y4 (And.intro @y5 (And.intro @y6 (And.intro @y7 @y8))))))))))
              refine eS fun _ hn130 _ _ => ?_;refine eO fun _ hk131 => ?_;refine tZ F11 ?_;refine hk131 _ ?_;refine hn130 (some ([3,5,6,8,48,49,50,73,74], none)) _ ?_;refine eS fun _ hn132 _ _ => ?_;refine eCt ?_;refine hn132 (some ([3,5,6,8,48,49,50,73], none)) _ ?_;refine eS fun _ hn133 _ _ => ?_;refine eB fun _ hn134 _ _ _ => ?_;refine eS fun _ hn135 _ _ => ?_;refine eO fun _ hk136 => ?_;refine tL F11 ?_;refine hk136 _ ?_;refine hn135 (some ([3,5,6,8,11,48,49,50,73], none)) _ ?_;refine eS fun _ hn137 _ _ => ?_;refine eD [] (n := 5) fun _ hk138 => ?_;refine sq0 ?_;refine fC 1 F11 ?_;refine fC 1 F11 ?_;refine fC 2 F11 ?_;refine fL F11 ?_;refine ⟨_, kh2, ?_⟩;refine hk138 _ ?_;refine sr0 ?_;refine tS 1 F11 ?_;refine Or.inl (Or.inl ⟨_, kv, ?_⟩);refine tL F11 ?_;refine hn137 (some ([3,5,6,8,11,12,48,49,50,73], none)) _ ?_;refine eS fun _ hn140 _ _ => ?_;refine eO fun _ hk141 => ?_;refine tL F11 ?_;refine hk141 _ ?_;refine hn140 (some ([3,5,6,8,11,12,48,49,50,73,83], none)) _ ?_;refine eCf ?_;refine eS fun _ hn142 _ _ => ?_;refine eD [] (n := 11) fun _ hk143 => ?_
              refine sq0 ?_;refine fC 2 F11 ?_;refine fC 1 F11 ?_;refine fC 2 F11 ?_;refine fC 1 F11 ?_;refine fC 2 F11 ?_;refine fC 1 F11 ?_;refine fC 1 F11 ?_;refine fL F11 ?_;refine hk143 _ ?_;refine sr0 ?_;refine tZ F11 ?_;refine hn142 (some ([3,5,6,8,11,12,48,49,50,73,99], none)) _ ?_;refine eCf ?_;refine hn134 _ ?_;refine hn133 (some ([3,5,6,8,48,49,50,73], none)) _ ?_;refine eO fun _ hk145 => ?_;refine tC 1 F11 ?_;refine tL F11 ?_;refine hk145 _ ?_;refine hn106 (3 - (0 + 1)) (some ([3,5,6,8,48,49,50,73], some ([0,1,2,3,4,5], 6))) _ ?_ ?_
              all_goals try refine lp0 ?_
              · omega
              · exact ⟨0 + 1, R, by omega, by omega, rows_same hR1 (by rw [hN]; exact hRi), fun j hj => hR2 j (by omega), by rfl⟩
            · skip
              have t1 : ((0 : Nat) : Int) < 3 := by decide
              have t2 : IntKind.i64.wrap (((0 : Nat) : Int) + 1) = ((0 + 1 : Nat) : Int) := by decide
              have t3 : (0 : Int) ≤ ((0 : Nat) : Int) := by decide
              have kh2 := kh 0 (by decide)
              have kv := ok_l14val w' (hazP 0) hW' (by omega)
              have hRi : R 0 = had 0 := hR2 0 (by decide)
              obtain ⟨A, a0, hA⟩ : ∃ (A : List Int) (a0 : Int), had 0 = A ++ [a0] := last_snoc (hS.now 0 (by decide))
              have hln := hlen 0 (by decide)
              rw [hA] at hln
              simp only [List.length_append, List.length_singleton] at hln
              have y1 : (R 0)[A.length]? = some a0 := by rw [hRi, hA, List.getElem?_append_right (Nat.le_refl _), Nat.sub_self]; rfl
              have y2 : (R 0).length = A.length + 1 := by rw [hRi, hA]; simp
              have y3 : IntKind.i64.wrap (((A.length + 1 : Nat) : Int) - 1) = (A.length : Int) := by rw [IntKind.wrap_i64]; omega
              have y4 : A.length < A.length + 1 := by omega
              have y5 : (A.length : Int) < ((A.length + 1 : Nat) : Int) := by omega
              have y6 : A.length + 1 + 1 ≤ 1000000 := by omega
              have y7 : (A.length + 1 + 1) * 8 ≤ 140737488355328 := by omega
              have hN : hadN had true w' 0 = R 0 ++ [(Wd w'.m (hazP 0)).val] := by
                unfold hadN
                rw [if_pos rfl, if_neg hdiff, hRi]
              have y8 : (a0 != (Wd w'.m (hazP 0)).val) = true := by rw [hA, List.getLast?_append] at hdiff; simpa using hdiff
              generalize (Wd w'.m (hazP 0)).val = v at kv y8 hN
              have F12 := And.intro F8 (And.intro @t1 (And.intro @t2 (And.intro @t3 (And.intro @y1 (And.intro @y2 (And.intro @y3 (And.intro @y4 (And.intro @y5 (And.intro @y6 (And.intro @y7 @y8))))))))))
              refine eS fun _ hn146 _ _ => ?_;refine eO fun _ hk147 => ?_;refine tZ F12 ?_;refine hk147 _ ?_;refine hn146 (some ([3,5,6,8,48,49,50,73,74], none)) _ ?_;refine eS fun _ hn148 _ _ => ?_;refine eCt ?_;refine hn148 (some ([3,5,6,8,48,49,50,73], none)) _ ?_;refine eS fun _ hn149 _ _ => ?_;refine eB fun _ hn150 _ _ _ => ?_;refine eS fun _ hn151 _ _ => ?_;refine eO fun _ hk152 => ?_;refine tL F12 ?_;refine hk152 _ ?_;refine hn151 (some ([3,5,6,8,11,48,49,50,73], none)) _ ?_;refine eS fun _ hn153 _ _ => ?_;refine eD [] (n := 5) fun _ hk154 => ?_;refine sq0 ?_;refine fC 1 F12 ?_;refine fC 1 F12 ?_;refine fC 2 F12 ?_;refine fL F12 ?_;refine ⟨_, kh2, ?_⟩;refine hk154 _ ?_;refine sr0 ?_;refine tS 1 F12 ?_;refine Or.inl (Or.inl ⟨_, kv, ?_⟩);refine tL F12 ?_;refine hn153 (some ([3,5,6,8,11,12,48,49,50,73], none)) _ ?_;refine eS fun _ hn156 _ _ => ?_;refine eO fun _ hk157 => ?_;refine tL F12 ?_;refine hk157 _ ?_;refine hn156 (some ([3,5,6,8,11,12,48,49,50,73,83], none)) _ ?_;refine eCf ?_;refine eS fun _ hn158 _ _ => ?_;refine eD [] (n := 11) fun _ hk159 => ?_
              refine sq0 ?_;refine fC 2 F12 ?_;refine fC 1 F12 ?_;refine fC 2 F12 ?_;refine fC 1 F12 ?_;refine fC 2 F12 ?_;refine fC 1 F12 ?_;refine fC 1 F12 ?_;refine fL F12 ?_;refine hk159 _ ?_;refine sr0 ?_;refine tZ F12 ?_;refine hn158 (some ([3,5,6,8,11,12,48,49,50,73,99], none)) _ ?_;refine eCt ?_;refine eO fun _ hk161 => ?_;refine tC 3 F12 ?_;refine tC 1 F12 ?_;refine tC 3 F12 ?_;refine tC 1 F12 ?_;refine tZ F12 ?_;refine hk161 _ ?_;refine hn150 _ ?_;refine hn149 (some ([3,5,6,8,48,49,50,73], none)) _ ?_;refine eO fun _ hk162 => ?_;refine tC 1 F12 ?_;refine tL F12 ?_;refine hk162 _ ?_;refine hn106 (3 - (0 + 1)) (some ([3,5,6,8,48,49,50,73], some ([0,1,2,7,4,5], 6))) _ ?_ ?_
              all_goals try refine lp0 ?_
              · omega
              · obtain ⟨R', e0, e1, e3, e4⟩ := rows_put R (R 0 ++ [v]) hR1 hN hR2
                exact ⟨0 + 1, R', by omega, by omega, e3, e4, by rw [e0, e1 1 (by decide), e1 2 (by decide), rowI_snoc]; try rfl⟩
            · skip
              have t1 : ((1 : Nat) : Int) < 3 := by decide
              have t2 : IntKind.i64.wrap (((1 : Nat) : Int) + 1) = ((1 + 1 : Nat) : Int) := by decide
              have t3 : (0 : Int) ≤ ((1 : Nat) : Int) := by decide
              have kh2 := kh 1 (by decide)
              have kv := ok_l14val w' (hazP 1) hW' (by omega)
              have hRi : R 1 = had 1 := hR2 1 (by decide)
              obtain ⟨A, a0, hA⟩ : ∃ (A : List Int) (a0 : Int), had 1 = A ++ [a0] := last_snoc (hS.now 1 (by decide))
              have hln := hlen 1 (by decide)
              rw [hA] at hln
              simp only [List.length_append, List.length_singleton] at hln
              have y1 : (R 1)[A.length]? = some a0 := by rw [hRi, hA, List.getElem?_append_right (Nat.le_refl _), Nat.sub_self]; rfl
              have y2 : (R 1).length = A.length + 1 := by rw [hRi, hA]; simp
              have y3 : IntKind.i64.wrap (((A.length + 1 : Nat) : Int) - 1) = (A.length : Int) := by rw [IntKind.wrap_i64]; omega
              have y4 : A.length < A.length + 1 := by omega
              have y5 : (A.length : Int) < ((A.length + 1 : Nat) : Int) := by omega
              have y6 : A.length + 1 + 1 ≤ 1000000 := by omega
              have y7 : (A.length + 1 + 1) * 8 ≤ 140737488355328 := by omega
              have hN : hadN had true w' 1 = had 1 := by
                unfold hadN
                rw [if_pos rfl, if_pos hsame]
              have y8 : (a0 != (Wd w'.m (hazP 1)).val) = false := by rw [hA, List.getLast?_append] at hsame; simpa using hsame
              generalize (Wd w'.m (hazP 1)).val = v at kv y8
              have F13 := And.intro F8 (And.intro @t1 (And.intro @t2 (And.intro @t3 (And.intro @y1 (And.intro @y2 (And.intro @y3 (And.intro @y4 (And.intro @y5 (And.intro @y6 (And.intro @y7 @y8))))))))))
              refine eS fun _ hn163 _ _ => ?_;refine eO fun _ hk164 => ?_;refine tZ F13 ?_;refine hk164 _ ?_;refine hn163 (some ([3,5,6,8,48,49,50,73,74], none)) _ ?_;refine eS fun _ hn165 _ _ => ?_;refine eCt ?_;refine hn165 (some ([3,5,6,8,48,49,50,73], none)) _ ?_;refine eS fun _ hn166 _ _ => ?_;refine eB fun _ hn167 _ _ _ => ?_;refine eS fun _ hn168 _ _ => ?_;refine eO fun _ hk169 => ?_;refine tL F13 ?_;refine hk169 _ ?_;refine hn168 (some ([3,5,6,8,11,48,49,50,73], none)) _ ?_;refine eS fun _ hn170 _ _ => ?_;refine eD [] (n := 5) fun _ hk171 => ?_;refine sq0 ?_;refine fC 1 F13 ?_;refine fC 1 F13 ?_;refine fC 2 F13 ?_;refine fL F13 ?_;refine ⟨_, kh2, ?_⟩;refine hk171 _ ?_;refine sr0 ?_;refine tS 1 F13 ?_;refine Or.inl (Or.inl ⟨_, kv, ?_⟩);refine tL F13 ?_;refine hn170 (some ([3,5,6,8,11,12,48,49,50,73], none)) _ ?_;refine eS fun _ hn173 _ _ => ?_;refine eO fun _ hk174 => ?_;refine tL F13 ?_;refine hk174 _ ?_;refine hn173 (some ([3,5,6,8,11,12,48,49,50,73,83], none)) _ ?_;refine eCf ?_;refine eS fun _ hn175 _ _ => ?_;refine eD [] (n := 11) fun _ hk176 => ?_
              refine sq0 ?_;refine fC 2 F13 ?_;refine fC 1 F13 ?_;refine fC 2 F13 ?_;refine fC 1 F13 ?_;refine fC 2 F13 ?_;refine fC 1 F13 ?_;refine fC 1 F13 ?_;refine fL F13 ?_;refine hk176 _ ?_;refine sr0 ?_;refine tZ F13 ?_;refine hn175 (some ([3,5,6,8,11,12,48,49,50,73,99], none)) _ ?_;refine eCf ?_;refine hn167 _ ?_;refine hn166 (some ([3,5,6,8,48,49,50,73], none)) _ ?_;refine eO fun _ hk178 => ?_;refine tC 1 F13 ?_;refine tL F13 ?_;refine hk178 _ ?_;refine hn106 (3 - (1 + 1)) (some ([3,5,6,8,48,49,50,73], some ([0,1,2,3,4,5], 6))) _ ?_ ?_
              all_goals try refine lp0 ?_
              · omega
              · exact ⟨1 + 1, R, by omega, by omega, rows_same hR1 (by rw [hN]; exact hRi), fun j hj => hR2 j (by omega), by rfl⟩
            · skip
              have t1 : ((1 : Nat) : Int) < 3 := by decide
              have t2 : IntKind.i64.wrap (((1 : Nat) : Int) + 1) = ((1 + 1 : Nat) : Int) := by decide
              have t3 : (0 : Int) ≤ ((1 : Nat) : Int) := by decide
              have kh2 := kh 1 (by decide)
              have kv := ok_l14val w' (hazP 1) hW' (by omega)
              have hRi : R 1 = had 1 := hR2 1 (by decide)
              obtain ⟨A, a0, hA⟩ : ∃ (A : List Int) (a0 : Int), had 1 = A ++ [a0] := last_snoc (hS.now 1 (by decide))
              have hln := hlen 1 (by decide)
              rw [hA] at hln
              simp only [List.length_append, List.length_singleton] at hln
              have y1 : (R 1)[A.length]? = some a0 := by rw [hRi, hA, List.getElem?_append_right (Nat.le_refl _), Nat.sub_self]; rfl
              have y2 : (R 1).length = A.length + 1 := by rw [hRi, hA]; simp
              have y3 : IntKind.i64.wrap (((A.length + 1 : Nat) : Int) - 1) = (A.length : Int) := by rw [IntKind.wrap_i64]; omega
              have y4 : A.length < A.length + 1 := by omega
              have y5 : (A.length : Int) < ((A.length + 1 : Nat) : Int) := by omega
              have y6 : A.length + 1 + 1 ≤ 1000000 := by omega
              have y7 : (A.length + 1 + 1) * 8 ≤ 140737488355328 := by omega
              have hN : hadN had true w' 1 = R 1 ++ [(Wd w'.m (hazP 1)).val] := by
                unfold hadN
                rw [if_pos rfl, if_neg hdiff, hRi]
              have y8 : (a0 != (Wd w'.m (hazP 1)).val) = true := by rw [hA, List.getLast?_append] at hdiff; simpa using hdiff
              generalize (Wd w'.m (hazP 1)).val = v at kv y8 hN
              have F14 := And.intro F8 (And.intro @t1 (And.intro @t2 (And.intro @t3 (And.intro @y1 (And.intro @y2 (And.intro @y3 (And.intro @y4 (And.intro @y5 (And.intro @y6 (And.intro @y7 @y8))))))))))
              refine eS fun _ hn179 _ _ => ?_;refine eO fun _ hk180 => ?_;refine tZ F14 ?_;refine hk180 _ ?_;refine hn179 (some ([3,5,6,8,48,49,50,73,74], none)) _ ?_;refine eS fun _ hn181 _ _ => ?_;refine eCt ?_;refine hn181 (some ([3,5,6,8,48,49,50,73], none)) _ ?_;refine eS fun _ hn182 _ _ => ?_;refine eB fun _ hn183 _ _ _ => ?_;refine eS fun _ hn184 _ _ => ?_;refine eO fun _ hk185 => ?_;refine tL F14 ?_;refine hk185 _ ?_;refine hn184 (some ([3,5,6,8,11,48,49,50,73], none)) _ ?_;refine eS fun _ hn186 _ _ => ?_;refine eD [] (n := 5) fun _ hk187 => ?_;refine sq0 ?_;refine fC 1 F14 ?_;refine fC 1 F14 ?_;refine fC 2 F14 ?_;refine fL F14 ?_;refine ⟨_, kh2, ?_⟩;refine hk187 _ ?_;refine sr0 ?_;refine tS 1 F14 ?_;refine Or.inl (Or.inl ⟨_, kv, ?_⟩);refine tL F14 ?_;refine hn186 (some ([3,5,6,8,11,12,48,49,50,73], none)) _ ?_;refine eS fun _ hn189 _ _ => ?_;refine eO fun _ hk190 => ?_;refine tL F14 ?_;refine hk190 _ ?_;refine hn189 (some ([3,5,6,8,11,12,48,49,50,73,83], none)) _ ?_;refine eCf ?_;refine eS fun _ hn191 _ _ => ?_;refine eD [] (n := 11) fun _ hk192 => ?_
              refine sq0 ?_;refine fC 2 F14 ?_;refine fC 1 F14 ?_;refine fC 2 F14 ?_;refine fC 1 F14 ?_;refine fC 2 F14 ?_;refine fC 1 F14 ?_;refine fC 1 F14 ?_;refine fL F14 ?_;refine hk192 _ ?_;refine sr0 ?_;refine tZ F14 ?_;refine hn191 (some ([3,5,6,8,11,12,48,49,50,73,99], none)) _ ?_;refine eCt ?_;refine eO fun _ hk194 => ?_;refine tC 3 F14 ?_;refine tC 1 F14 ?_;refine tC 3 F14 ?_;refine tC 1 F14 ?_;refine tZ F14 ?_;refine hk194 _ ?_;refine hn183 _ ?_;refine hn182 (some ([3,5,6,8,48,49,50,73], none)) _ ?_;refine eO fun _ hk195 => ?_;refine tC 1 F14 ?_;refine tL F14 ?_;refine hk195 _ ?_;refine hn106 (3 - (1 + 1)) (some ([3,5,6,8,48,49,50,73], some ([0,1,2,3,7,5], 6))) _ ?_ ?_
              all_goals try refine lp0 ?_
              · omega
              · obtain ⟨R', e0, e1, e3, e4⟩ := rows_put R (R 1 ++ [v]) hR1 hN hR2
                exact ⟨1 + 1, R', by omega, by omega, e3, e4, by rw [e0, e1 0 (by decide), e1 2 (by decide), rowI_snoc]; try rfl⟩
            · skip
              have t1 : ((2 : Nat) : Int) < 3 := by decide
              have t2 : IntKind.i64.wrap (((2 : Nat) : Int) + 1) = ((2 + 1 : Nat) : Int) := by decide
              have t3 : (0 : Int) ≤ ((2 : Nat) : Int) := by decide
              have kh2 := kh 2 (by decide)
              have kv := ok_l14val w' (hazP 2) hW' (by omega)
              have hRi : R 2 = had 2 := hR2 2 (by decide)
              obtain ⟨A, a0, hA⟩ : ∃ (A : List Int) (a0 : Int), had 2 = A ++ [a0] := last_snoc (hS.now 2 (by decide))
              have hln := hlen 2 (by decide)
              rw [hA] at hln
              simp only [List.length_append, List.length_singleton] at hln
              have y1 : (R 2)[A.length]? = some a0 := by rw [hRi, hA, List.getElem?_append_right (Nat.le_refl _), Nat.sub_self]; rfl
              have y2 : (R 2).length = A.length + 1 := by rw [hRi, hA]; simp
              have y3 : IntKind.i64.wrap (((A.length + 1 : Nat) : Int) - 1) = (A.length : Int) := by rw [IntKind.wrap_i64]; omega
              have y4 : A.length < A.length + 1 := by omega
              have y5 : (A.length : Int) < ((A.length + 1 : Nat) : Int) := by omega
              have y6 : A.length + 1 + 1 ≤ 1000000 := by omega
              have y7 : (A.length + 1 + 1) * 8 ≤ 140737488355328 := by omega
              have hN : hadN had true w' 2 = had 2 := by
                unfold hadN
                rw [if_pos rfl, if_pos hsame]
              have y8 : (a0 != (Wd w'.m (hazP 2)).val) = false := by rw [hA, List.getLast?_append] at hsame; simpa using hsame
              generalize (Wd w'.m (hazP 2)).val = v at kv y8
              have F15 := And.intro F8 (And.intro @t1 (And.intro @t2 (And.intro @t3 (And.intro @y1 (And.intro @y2 (And.intro @y3 (And.intro @y4 (And.intro @y5 (And.intro @y6 (And.intro @y7 @y8))))))))))
              refine eS fun _ hn196 _ _ => ?_;refine eO fun _ hk197 => ?_;refine tZ F15 ?_;refine hk197 _ ?_;refine hn196 (some ([3,5,6,8,48,49,50,73,74], none)) _ ?_;refine eS fun _ hn198 _ _ => ?_;refine eCt ?_;refine hn198 (some ([3,5,6,8,48,49,50,73], none)) _ ?_;refine eS fun _ hn199 _ _ => ?_;refine eB fun _ hn200 _ _ _ => ?_;refine eS fun _ hn201 _ _ => ?_;refine eO fun _ hk202 => ?_;refine tL F15 ?_;refine hk202 _ ?_;refine hn201 (some ([3,5,6,8,11,48,49,50,73], none)) _ ?_;refine eS fun _ hn203 _ _ => ?_;refine eD [] (n := 5) fun _ hk204 => ?_;refine sq0 ?_;refine fC 1 F15 ?_;refine fC 1 F15 ?_;refine fC 2 F15 ?_;refine fL F15 ?_;refine ⟨_, kh2, ?_⟩;refine hk204 _ ?_;refine sr0 ?_;refine tS 1 F15 ?_;refine Or.inl (Or.inl ⟨_, kv, ?_⟩);refine tL F15 ?_;refine hn203 (some ([3,5,6,8,11,12,48,49,50,73], none)) _ ?_;refine eS fun _ hn206 _ _ => ?_;refine eO fun _ hk207 => ?_;refine tL F15 ?_;refine hk207 _ ?_;refine hn206 (some ([3,5,6,8,11,12,48,49,50,73,83], none)) _ ?_;refine eCf ?_;refine eS fun _ hn208 _ _ => ?_;refine eD [] (n := 11) fun _ hk209 => ?_
              refine sq0 ?_;refine fC 2 F15 ?_;refine fC 1 F15 ?_;refine fC 2 F15 ?_;refine fC 1 F15 ?_;refine fC 2 F15 ?_;refine fC 1 F15 ?_;refine fC 1 F15 ?_;refine fL F15 ?_;refine hk209 _ ?_;refine sr0 ?_;refine tZ F15 ?_;refine hn208 (some ([3,5,6,8,11,12,48,49,50,73,99], none)) _ ?_;refine eCf ?_;refine hn200 _ ?_;refine hn199 (some ([3,5,6,8,48,49,50,73], none)) _ ?_;refine eO fun _ hk211 => ?_;refine tC 1 F15 ?_;refine tL F15 ?_;refine hk211 _ ?_;refine hn106 (3 - (2 + 1)) (some ([3,5,6,8,48,49,50,73], some ([0,1,2,3,4,5], 6))) _ ?_ ?_
              all_goals try refine lp0 ?_
              · omega
              · exact ⟨2 + 1, R, by omega, by omega, rows_same hR1 (by rw [hN]; exact hRi), fun j hj => hR2 j (by omega), by rfl⟩
            · skip
              have t1 : ((2 : Nat) : Int) < 3 := by decide
              have t2 : IntKind.i64.wrap (((2 : Nat) : Int) + 1) = ((2 + 1 : Nat) : Int) := by decide
              have t3 : (0 : Int) ≤ ((2 : Nat) : Int) := by decide
              have kh2 := kh 2 (by decide)
              have kv := ok_l14val w' (hazP 2) hW' (by omega)
              have hRi : R 2 = had 2 := hR2 2 (by decide)
              obtain ⟨A, a0, hA⟩ : ∃ (A : List Int) (a0 : Int), had 2 = A ++ [a0] := last_snoc (hS.now 2 (by decide))
              have hln := hlen 2 (by decide)
              rw [hA] at hln
              simp only [List.length_append, List.length_singleton] at hln
              have y1 : (R 2)[A.length]? = some a0 := by rw [hRi, hA, List.getElem?_append_right (Nat.le_refl _), Nat.sub_self]; rfl
              have y2 : (R 2).length = A.length + 1 := by rw [hRi, hA]; simp
              have y3 : IntKind.i64.wrap (((A.length + 1 : Nat) : Int) - 1) = (A.length : Int) := by rw [IntKind.wrap_i64]; omega
              have y4 : A.length < A.length + 1 := by omega
              have y5 : (A.length : Int) < ((A.length + 1 : Nat) : Int) := by omega
              have y6 : A.length + 1 + 1 ≤ 1000000 := by omega
              have y7 : (A.length + 1 + 1) * 8 ≤ 140737488355328 := by omega
              have hN : hadN had true w' 2 = R 2 ++ [(Wd w'.m (hazP 2)).val] := by
                unfold hadN
                rw [if_pos rfl, if_neg hdiff, hRi]
              have y8 : (a0 != (Wd w'.m (hazP 2)).val) = true := by rw [hA, List.getLast?_append] at hdiff; simpa using hdiff
              generalize (Wd w'.m (hazP 2)).val = v at kv y8 hN
              have F16 := And.intro F8 (And.intro @t1 (And.intro @t2 (And.intro @t3 (And.intro @y1 (And.intro @y2 (And.intro @y3 (And.intro @y4 (And.intro @y5 (And.intro @y6 (And.intro @y7 @y8))))))))))
              refine eS fun _ hn212 _ _ => ?_;refine eO fun _ hk213 => ?_;refine tZ F16 ?_;refine hk213 _ ?_;refine hn212 (some ([3,5,6,8,48,49,50,73,74], none)) _ ?_;refine eS fun _ hn214 _ _ => ?_;refine eCt ?_;refine hn214 (some ([3,5,6,8,48,49,50,73], none)) _ ?_;refine eS fun _ hn215 _ _ => ?_;refine eB fun _ hn216 _ _ _ => ?_;refine eS fun _ hn217 _ _ => ?_;refine eO fun _ hk218 => ?_;refine tL F16 ?_;refine hk218 _ ?_;refine hn217 (some ([3,5,6,8,11,48,49,50,73], none)) _ ?_;refine eS fun _ hn219 _ _ => ?_;refine eD [] (n := 5) fun _ hk220 => ?_;refine sq0 ?_;refine fC 1 F16 ?_;refine fC 1 F16 ?_;refine fC 2 F16 ?_;refine fL F16 ?_;refine ⟨_, kh2, ?_⟩;refine hk220 _ ?_;refine sr0 ?_;refine tS 1 F16 ?_;refine Or.inl (Or.inl ⟨_, kv, ?_⟩);refine tL F16 ?_;refine hn219 (some ([3,5,6,8,11,12,48,49,50,73], none)) _ ?_;refine eS fun _ hn222 _ _ => ?_;refine eO fun _ hk223 => ?_;refine tL F16 ?_;refine hk223 _ ?_;refine hn222 (some ([3,5,6,8,11,12,48,49,50,73,83], none)) _ ?_;refine eCf ?_;refine eS fun _ hn224 _ _ => ?_;refine eD [] (n := 11) fun _ hk225 => ?_
              refine sq0 ?_;refine fC 2 F16 ?_;refine fC 1 F16 ?_;refine fC 2 F16 ?_;refine fC 1 F16 ?_;refine fC 2 F16 ?_;refine fC 1 F16 ?_;refine fC 1 F16 ?_;refine fL F16 ?_;refine hk225 _ ?_;refine sr0 ?_;refine tZ F16 ?_;refine hn224 (some ([3,5,6,8,11,12,48,49,50,73,99], none)) _ ?_;refine eCt ?_;refine eO fun _ hk227 => ?_;refine tC 3 F16 ?_;refine tC 1 F16 ?_;refine tC 3 F16 ?_;refine tC 1 F16 ?_;refine tZ F16 ?_;refine hk227 _ ?_;refine hn216 _ ?_;refine hn215 (some ([3,5,6,8,48,49,50,73], none)) _ ?_;refine eO fun _ hk228 => ?_;refine tC 1 F16 ?_;refine tL F16 ?_;refine hk228 _ ?_;refine hn106 (3 - (2 + 1)) (some ([3,5,6,8,48,49,50,73], some ([0,1,2,3,4,7], 6))) _ ?_ ?_
              all_goals try refine lp0 ?_
              · omega
              · obtain ⟨R', e0, e1, e3, e4⟩ := rows_put R (R 2 ++ [v]) hR1 hN hR2
                exact ⟨2 + 1, R', by omega, by omega, e3, e4, by rw [e0, e1 0 (by decide), e1 1 (by decide), rowI_snoc]; try rfl⟩
        · skip
          have hcc := (List.getElem?_eq_some_iff.1 hp1).1
          have x2 : (idx : Int) < (l.length : Int) := by omega
          have x3 : IntKind.i64.wrap ((idx : Int) + 1) = ((idx + 1 : Nat) : Int) := by rw [IntKind.wrap_i64]; omega
          have x4 : (p.kind != 0) = false := by simpa using hp2
          have x5 : (p.thread == 1) = false := by simpa using ht1
          have k3 := ok_kStep w p hW (by omega)
          have hW' := stepOk hW p
          obtain ⟨s', hZ', hS'⟩ := hzW_step hZ p (by omega)
          obtain ⟨reads', hI'⟩ := scans_step hZ gk hS' hp2 hS
          have hst' := step_stopped (d := dd) hp2 hS' hst
          have hB : (false || p.thread == 1) = false := by rw [x5]; rfl
          rw [hB] at hI'
          clear hS'
          generalize (stepM w p).2 = bb at k3
          generalize (stepM w p).1 = w' at k3 hZ' hW' hI' hst'
          obtain ⟨y0, hy0, hT0⟩ := hZ'.get (i := 0) (by decide)
          have k7 := ok_kDone y0
          have hlen' : ∀ j, j < 3 → (hadN had false w' j).length ≤ 1 + (idx + 1) := fun j hj => Nat.le_trans (hadN_len had false w' j (by have := hlen j hj; omega)) (by have := hlen j hj; omega)
          obtain ⟨hq, hqe⟩ : ∃ hq, hq = hadN had false w' := ⟨_, rfl⟩
          rw [← hqe] at hI' hlen'
          have x6 : (w'.tasks.length : Int) = 3 := by have := hZ'.len; omega
          have x7 : 0 < w'.tasks.length := by omega
          have x8 : (0 : Int) < 3 := by decide
          have F17 := And.intro F5 (And.intro @x2 (And.intro @x3 (And.intro @hp1 (And.intro @x4 (And.intro @x6 (And.intro @x7 (And.intro @x8 (And.intro @hy0 @x5))))))))
          refine eS fun _ hn229 _ _ => ?_;refine eO fun _ hk230 => ?_;refine tZ F17 ?_;refine hk230 _ ?_;refine hn229 (some ([3,5,6,8,48,49,50,51], none)) _ ?_;refine eS fun _ hn231 _ _ => ?_;refine eCt ?_;refine hn231 (some ([3,5,6,8,48,49,50], none)) _ ?_;refine eS fun _ hn232 _ he232 => ?_;refine eB fun _ hn233 _ _ he233 => ?_;refine eS fun _ hn234 _ _ => ?_;refine eO fun _ hk235 => ?_;refine tC 1 F17 ?_;refine tC 1 F17 ?_;refine tZ F17 ?_;refine hk235 _ ?_;refine hn234 (some ([3,5,6,8,10,48,49,50], none)) _ ?_;refine eS fun _ hn236 _ _ => ?_;refine eS fun _ hn237 _ _ => ?_;refine eO fun _ hk238 => ?_;refine tC 2 F17 ?_;refine tZ F17 ?_;refine hk238 _ ?_;refine hn237 (some ([3,5,6,8,10,48,49,50,56], none)) _ ?_;refine eCf ?_;refine hn236 (some ([3,5,6,8,10,48,49,50], none)) _ ?_;refine eS fun _ hn239 _ _ => ?_;refine eO fun _ hk240 => ?_;refine tC 1 F17 ?_;refine tC 1 F17 ?_;refine tS 1 F17 ?_;refine Or.inl (Or.inl ⟨_, k3, ?_⟩);refine tZ F17 ?_;refine hk240 _ ?_;refine hn239 (some ([3,5,6,8,10,48,49,50], none)) _ ?_;refine eS fun _ hn241 _ _ => ?_;refine eS fun _ hn242 _ _ => ?_
          refine eO fun _ hk243 => ?_;refine tC 2 F17 ?_;refine tZ F17 ?_;refine hk243 _ ?_;refine hn242 (some ([3,5,6,8,10,48,49,50,66], none)) _ ?_;refine eCf ?_;refine hn241 (some ([3,5,6,8,10,48,49,50], none)) _ ?_;refine eS fun _ hn244 _ _ => ?_;refine eO fun _ hk245 => ?_;refine tC 4 F17 ?_;refine tC 1 F17 ?_;refine tL F17 ?_;refine hk245 _ ?_;refine hn244 (some ([3,5,6,8,48,49,50], none)) _ ?_;refine eS fun _ hn246 _ _ => ?_;refine eS fun _ hn247 _ _ => ?_;refine eO fun _ hk248 => ?_;refine tL F17 ?_;refine hk248 _ ?_;refine hn247 (some ([3,5,6,8,48,49,50,73], none)) _ ?_;refine eB fun _ _ hx249 _ _ => ?_;refine eW (Hs2Inv L l idx w' false had) (3) (some ([3,5,6,8,48,49,50,73], some ([0,1,2,3,4,5], 6))) ([]) ?_ ?_
          · try refine lp0 ?_
            exact ⟨0, had, by omega, by omega, fun j hj => absurd hj (by omega), fun _ _ => rfl, by rfl⟩
          · intro k S1 hI
            obtain ⟨i, R, hi, rfl, hR1, hR2, rfl⟩ := hI
            have hcas2 : (i = 3 ∧ y0.live = true) ∨ (i = 3 ∧ y0.live = false) ∨ i = 0 ∨ i = 1 ∨ i = 2 := by
              have h3 : i = 3 ∨ i = 0 ∨ i = 1 ∨ i = 2 := by omega
              rcases h3 with rfl | h3
              · cases y0.live
                · exact .inr (.inl ⟨rfl, rfl⟩)
                · exact .inl ⟨rfl, rfl⟩
              · exact .inr (.inr h3)
            intro _ hn250 _ he250
            rcases hcas2 with ⟨rfl, hlv⟩ | ⟨rfl, hlv⟩ | rfl | rfl | rfl
            · skip
              have t1 : ¬ ((3 : Nat) : Int) < 3 := by decide
              rw [hlv] at k7
              have F18 := And.intro F17 @t1
              refine eS fun _ hn251 _ _ => ?_;refine eO fun _ hk252 => ?_;refine tZ F18 ?_;refine hk252 _ ?_;refine hn251 (some ([3,5,6,8,48,49,50,73,74], none)) _ ?_;refine eS fun _ _ _ he253 => ?_;refine eCf ?_;refine he253 4 _ ?_;refine he250 4 _ ?_;refine hx249 _ ?_;refine hn246 (some ([3,5,6,8,48,49,50], none)) _ ?_;refine eS fun _ hn254 _ _ => ?_;refine eO fun _ hk255 => ?_;refine tC 2 F18 ?_;refine tC 1 F18 ?_;refine tC 1 F18 ?_;refine tL F18 ?_;refine Or.inl (Or.inl ⟨_, k7, ?_⟩);refine hk255 _ ?_;refine hn254 (some ([3,5,6,8,48,49,50,113], none)) _ ?_;refine eCf ?_;refine hn233 _ ?_;refine hn232 (some ([3,5,6,8,48,49,50], none)) _ ?_;refine eO fun _ hk256 => ?_;refine tC 1 F18 ?_;refine tL F18 ?_;refine hk256 _ ?_;refine hn58 (l.length - (idx + 1)) (some ([3,5,6,8,48,49,50], some ([0,1,2,3,4,5], 6))) _ ?_ ?_
              all_goals try refine lp0 ?_
              · omega
              · exact ⟨idx + 1, w', s', hq, _, reads', by omega, hZ', by have e9 : 2 + (idx + 1) = 2 + idx + 1 := rfl; rw [e9]; exact hW', hst', hI', hlen', by omega, by rw [hqe, ← hR1 0 (by decide), ← hR1 1 (by decide), ← hR1 2 (by decide)]⟩
            · skip
              have t1 : ¬ ((3 : Nat) : Int) < 3 := by decide
              rw [hlv] at k7
              have hW2 := worldOk_up hW' (show 2 + idx + 1 ≤ 2 + 120 by omega)
              obtain ⟨s9, x9, hZ9, hd9, hx9, hf9, hfit⟩ := scans_alone hZ' gk (by unfold stoppedM; rw [hst']; rfl) hI' (k := 6) (by decide)
              change (aloneM w' (((0 : Nat) : Int) + 1) 6).2 = true at hd9
              change HzW dd (aloneM w' (((0 : Nat) : Int) + 1) 6).1 s9 at hZ9
              have k8 := ok_kAlone w' (((0 : Nat) : Int) + 1) 6 hW2 (by show 2 + 120 + 6 ≤ 900; decide)
              have hW9 := alone_ok hW2 (((0 : Nat) : Int) + 1) 6
              rw [hd9] at k8
              change Ok _ [_, sI 1, _] _ at k8
              generalize (aloneM w' (((0 : Nat) : Int) + 1) 6).1 = w9 at k8 hZ9 hW9
              obtain ⟨y9, hy9, hT9⟩ := hZ9.get (i := 0) (by decide)
              have k9 := ok_kCode y9
              rw [hT9.code, hx9] at k9
              have hgx := (hW9.task y9 (List.mem_of_getElem? hy9)).good (s9 0) hT9.code
              rw [hx9] at hgx
              have hgx2 : x9.held.length ≤ 1000 := by have h9 : ScanOk _ x9 := hgx; have := h9.held; simp at this; omega
              have k10 := ok_hzHeld (.scan x9) (fun z hz => by cases hz; exact hgx2)
              rw [show heldH (.scan x9) = some x9.held from if_pos hf9] at k10
              change Ok _ [eCode hz (some (.scan x9))] (.tup [.sl 1 0 (x9.held.map eH1), sB true]) at k10
              have kf := ok_l14fits [(0, hq 0), (0, hq 1), (0, hq 2)] (fun q hq => by
                simp only [List.mem_cons, List.not_mem_nil, or_false] at hq
                rcases hq with rfl | rfl | rfl
                · exact Nat.le_trans (hlen' 0 (by decide)) (by omega)
                · exact Nat.le_trans (hlen' 1 (by decide)) (by omega)
                · exact Nat.le_trans (hlen' 2 (by decide)) (by omega)) x9.held 0 1
              change Ok _ _ (sB (fitsM x9.held [hq 0, hq 1, hq 2])) at kf
              rw [hfit] at kf
              change Ok _ [_, .sl 1 1 [[.sl 1 0 ((hq 0).map eH1)], [.sl 1 0 ((hq 1).map eH1)], [.sl 1 0 ((hq 2).map eH1)]]] _ at kf
              rw [show hq 0 = R 0 by rw [hqe]; exact (hR1 0 (by decide)).symm, show hq 1 = R 1 by rw [hqe]; exact (hR1 1 (by decide)).symm, show hq 2 = R 2 by rw [hqe]; exact (hR1 2 (by decide)).symm] at kf
              have v1 : (w9.tasks.length : Int) = 3 := by have := hZ9.len; omega
              have v2 : 0 < w9.tasks.length := by omega
              have v3 : (0 : Int) < 3 := by decide
              generalize x9.held = hd9l at k10 kf
              have F19 := And.intro F17 (And.intro @t1 (And.intro @v1 (And.intro @v2 (And.intro @v3 @hy9))))
              refine eS fun _ hn257 _ _ => ?_;refine eO fun _ hk258 => ?_;refine tZ F19 ?_;refine hk258 _ ?_;refine hn257 (some ([3,5,6,8,48,49,50,73,74], none)) _ ?_;refine eS fun _ _ _ he259 => ?_;refine eCf ?_;refine he259 4 _ ?_;refine he250 4 _ ?_;refine hx249 _ ?_;refine hn246 (some ([3,5,6,8,48,49,50], none)) _ ?_;refine eS fun _ hn260 _ _ => ?_;refine eO fun _ hk261 => ?_;refine tC 2 F19 ?_;refine tC 1 F19 ?_;refine tC 1 F19 ?_;refine tL F19 ?_;refine Or.inl (Or.inl ⟨_, k7, ?_⟩);refine hk261 _ ?_;refine hn260 (some ([3,5,6,8,48,49,50,113], none)) _ ?_;refine eCt ?_;refine he233 2 _ (by decide) ?_;refine he232 2 _ ?_;refine he58 2 _ ?_;refine hx57 _ ?_;refine hn54 (some ([3,6], none)) _ ?_;refine eS fun _ hn262 _ _ => ?_;refine eO fun _ hk263 => ?_;refine tC 1 F19 ?_;refine tS 1 F19 ?_;refine Or.inl (Or.inl ⟨_, k8, ?_⟩);refine tC 5 F19 ?_;refine tL F19 ?_;refine hk263 _ ?_;refine hn262 (some ([6,13,14], none)) _ ?_;refine eS fun _ hn264 _ _ => ?_;refine eS fun _ hn265 _ _ => ?_;refine eO fun _ hk266 => ?_;refine tC 2 F19 ?_;refine tZ F19 ?_;refine hk266 _ ?_;refine hn265 (some ([6,13,14,123], none)) _ ?_
              refine eCf ?_;refine hn264 (some ([6,13,14], none)) _ ?_;refine eS fun _ hn267 _ _ => ?_;refine eO fun _ hk268 => ?_;refine tC 2 F19 ?_;refine tC 1 F19 ?_;refine tC 1 F19 ?_;refine tS 1 F19 ?_;refine Or.inl (Or.inl ⟨_, k9, ?_⟩);refine tS 1 F19 ?_;refine Or.inl (Or.inl ⟨_, k10, ?_⟩);refine tL F19 ?_;refine hk268 _ ?_;refine hn267 (some ([6,14,15,16], none)) _ ?_;refine eS fun _ hn269 _ _ => ?_;refine eS fun _ hn270 _ _ => ?_;refine eO fun _ hk271 => ?_;refine tL F19 ?_;refine hk271 _ ?_;refine hn270 (some ([6,15,138], none)) _ ?_;refine eCf ?_;refine hn269 (some ([6,15], none)) _ ?_;refine eS fun _ hn272 _ _ => ?_;refine eO fun _ hk273 => ?_;refine tS 1 F19 ?_;refine tS 1 F19 ?_;refine ⟨_, kg _ _ _ _ rfl rfl rfl, ?_⟩;refine tS 1 F19 ?_;refine Or.inl (Or.inl ⟨_, kf, ?_⟩);refine tS 1 F19 ?_;refine tS 1 F19 ?_;refine Or.inl (Or.inl ⟨_, ka, ?_⟩);refine tL F19 ?_;refine hk273 _ ?_;refine hn272 (some ([2], none)) _ ?_
              exact sf1 F19
            · skip
              have t1 : ((0 : Nat) : Int) < 3 := by decide
              have t2 : IntKind.i64.wrap (((0 : Nat) : Int) + 1) = ((0 + 1 : Nat) : Int) := by decide
              have t3 : (0 : Int) ≤ ((0 : Nat) : Int) := by decide
              have kh2 := kh 0 (by decide)
              have kv := ok_l14val w' (hazP 0) hW' (by omega)
              have hN : hadN had false w' 0 = [(Wd w'.m (hazP 0)).val] := rfl
              generalize (Wd w'.m (hazP 0)).val = v at kv hN
              have F20 := And.intro F17 (And.intro @t1 (And.intro @t2 @t3))
              refine eS fun _ hn274 _ _ => ?_;refine eO fun _ hk275 => ?_;refine tZ F20 ?_;refine hk275 _ ?_;refine hn274 (some ([3,5,6,8,48,49,50,73,74], none)) _ ?_;refine eS fun _ hn276 _ _ => ?_;refine eCt ?_;refine hn276 (some ([3,5,6,8,48,49,50,73], none)) _ ?_;refine eS fun _ hn277 _ _ => ?_;refine eB fun _ hn278 _ _ _ => ?_;refine eS fun _ hn279 _ _ => ?_;refine eO fun _ hk280 => ?_;refine tL F20 ?_;refine hk280 _ ?_;refine hn279 (some ([3,5,6,8,11,48,49,50,73], none)) _ ?_;refine eS fun _ hn281 _ _ => ?_;refine eD [] (n := 5) fun _ hk282 => ?_;refine sq0 ?_;refine fC 1 F20 ?_;refine fC 1 F20 ?_;refine fC 2 F20 ?_;refine fL F20 ?_;refine ⟨_, kh2, ?_⟩;refine hk282 _ ?_;refine sr0 ?_;refine tS 1 F20 ?_;refine Or.inl (Or.inl ⟨_, kv, ?_⟩);refine tL F20 ?_;refine hn281 (some ([3,5,6,8,11,12,48,49,50,73], none)) _ ?_;refine eS fun _ hn284 _ _ => ?_;refine eO fun _ hk285 => ?_;refine tL F20 ?_;refine hk285 _ ?_;refine hn284 (some ([3,5,6,8,11,12,48,49,50,73,83], none)) _ ?_;refine eCt ?_;refine eO fun _ hk286 => ?_;refine tC 4 F20 ?_;refine tZ F20 ?_
              refine hk286 _ ?_;refine hn278 _ ?_;refine hn277 (some ([3,5,6,8,48,49,50,73], none)) _ ?_;refine eO fun _ hk287 => ?_;refine tC 1 F20 ?_;refine tL F20 ?_;refine hk287 _ ?_;refine hn250 (3 - (0 + 1)) (some ([3,5,6,8,48,49,50,73], some ([0,1,2,6,4,5], 6))) _ ?_ ?_
              all_goals try refine lp0 ?_
              · omega
              · obtain ⟨R', e0, e1, e3, e4⟩ := rows_put R [v] hR1 hN hR2
                exact ⟨0 + 1, R', by omega, by omega, e3, e4, by rw [e0, e1 1 (by decide), e1 2 (by decide)]; try rfl⟩
            · skip
              have t1 : ((1 : Nat) : Int) < 3 := by decide
              have t2 : IntKind.i64.wrap (((1 : Nat) : Int) + 1) = ((1 + 1 : Nat) : Int) := by decide
              have t3 : (0 : Int) ≤ ((1 : Nat) : Int) := by decide
              have kh2 := kh 1 (by decide)
              have kv := ok_l14val w' (hazP 1) hW' (by omega)
              have hN : hadN had false w' 1 = [(Wd w'.m (hazP 1)).val] := rfl
              generalize (Wd w'.m (hazP 1)).val = v at kv hN
              have F21 := And.intro F17 (And.intro @t1 (And.intro @t2 @t3))
              refine eS fun _ hn288 _ _ => ?_;refine eO fun _ hk289 => ?_;refine tZ F21 ?_;refine hk289 _ ?_;refine hn288 (some ([3,5,6,8,48,49,50,73,74], none)) _ ?_;refine eS fun _ hn290 _ _ => ?_;refine eCt ?_;refine hn290 (some ([3,5,6,8,48,49,50,73], none)) _ ?_;refine eS fun _ hn291 _ _ => ?_;refine eB fun _ hn292 _ _ _ => ?_;refine eS fun _ hn293 _ _ => ?_;refine eO fun _ hk294 => ?_;refine tL F21 ?_;refine hk294 _ ?_;refine hn293 (some ([3,5,6,8,11,48,49,50,73], none)) _ ?_;refine eS fun _ hn295 _ _ => ?_;refine eD [] (n := 5) fun _ hk296 => ?_;refine sq0 ?_;refine fC 1 F21 ?_;refine fC 1 F21 ?_;refine fC 2 F21 ?_;refine fL F21 ?_;refine ⟨_, kh2, ?_⟩;refine hk296 _ ?_;refine sr0 ?_;refine tS 1 F21 ?_;refine Or.inl (Or.inl ⟨_, kv, ?_⟩);refine tL F21 ?_;refine hn295 (some ([3,5,6,8,11,12,48,49,50,73], none)) _ ?_;refine eS fun _ hn298 _ _ => ?_;refine eO fun _ hk299 => ?_;refine tL F21 ?_;refine hk299 _ ?_;refine hn298 (some ([3,5,6,8,11,12,48,49,50,73,83], none)) _ ?_;refine eCt ?_;refine eO fun _ hk300 => ?_;refine tC 4 F21 ?_;refine tZ F21 ?_
              refine hk300 _ ?_;refine hn292 _ ?_;refine hn291 (some ([3,5,6,8,48,49,50,73], none)) _ ?_;refine eO fun _ hk301 => ?_;refine tC 1 F21 ?_;refine tL F21 ?_;refine hk301 _ ?_;refine hn250 (3 - (1 + 1)) (some ([3,5,6,8,48,49,50,73], some ([0,1,2,3,6,5], 6))) _ ?_ ?_
              all_goals try refine lp0 ?_
              · omega
              · obtain ⟨R', e0, e1, e3, e4⟩ := rows_put R [v] hR1 hN hR2
                exact ⟨1 + 1, R', by omega, by omega, e3, e4, by rw [e0, e1 0 (by decide), e1 2 (by decide)]; try rfl⟩
            · skip
              have t1 : ((2 : Nat) : Int) < 3 := by decide
              have t2 : IntKind.i64.wrap (((2 : Nat) : Int) + 1) = ((2 + 1 : Nat) : Int) := by decide
              have t3 : (0 : Int) ≤ ((2 : Nat) : Int) := by decide
              have kh2 := kh 2 (by decide)
              have kv := ok_l14val w' (hazP 2) hW' (by omega)
              have hN : hadN had false w' 2 = [(Wd w'.m (hazP 2)).val] := rfl
              generalize (Wd w'.m (hazP 2)).val = v at kv hN
              have F22 := And.intro F17 (And.intro @t1 (And.intro @t2 @t3))
              refine eS fun _ hn302 _ _ => ?_;refine eO fun _ hk303 => ?_;refine tZ F22 ?_;refine hk303 _ ?_;refine hn302 (some ([3,5,6,8,48,49,50,73,74], none)) _ ?_;refine eS fun _ hn304 _ _ => ?_;refine eCt ?_;refine hn304 (some ([3,5,6,8,48,49,50,73], none)) _ ?_;refine eS fun _ hn305 _ _ => ?_;refine eB fun _ hn306 _ _ _ => ?_;refine eS fun _ hn307 _ _ => ?_;refine eO fun _ hk308 => ?_;refine tL F22 ?_;refine hk308 _ ?_;refine hn307 (some ([3,5,6,8,11,48,49,50,73], none)) _ ?_;refine eS fun _ hn309 _ _ => ?_;refine eD [] (n := 5) fun _ hk310 => ?_;refine sq0 ?_;refine fC 1 F22 ?_;refine fC 1 F22 ?_;refine fC 2 F22 ?_;refine fL F22 ?_;refine ⟨_, kh2, ?_⟩;refine hk310 _ ?_;refine sr0 ?_;refine tS 1 F22 ?_;refine Or.inl (Or.inl ⟨_, kv, ?_⟩);refine tL F22 ?_;refine hn309 (some ([3,5,6,8,11,12,48,49,50,73], none)) _ ?_;refine eS fun _ hn312 _ _ => ?_;refine eO fun _ hk313 => ?_;refine tL F22 ?_;refine hk313 _ ?_;refine hn312 (some ([3,5,6,8,11,12,48,49,50,73,83], none)) _ ?_;refine eCt ?_;refine eO fun _ hk314 => ?_;refine tC 4 F22 ?_;refine tZ F22 ?_
              refine hk314 _ ?_;refine hn306 _ ?_;refine hn305 (some ([3,5,6,8,48,49,50,73], none)) _ ?_;refine eO fun _ hk315 => ?_;refine tC 1 F22 ?_;refine tL F22 ?_;refine hk315 _ ?_;refine hn250 (3 - (2 + 1)) (some ([3,5,6,8,48,49,50,73], some ([0,1,2,3,4,6], 6))) _ ?_ ?_
              all_goals try refine lp0 ?_
              · omega
              · obtain ⟨R', e0, e1, e3, e4⟩ := rows_put R [v] hR1 hN hR2
                exact ⟨2 + 1, R', by omega, by omega, e3, e4, by rw [e0, e1 0 (by decide), e1 1 (by decide)]; try rfl⟩
        · skip
          have hcc := (List.getElem?_eq_some_iff.1 hp1).1
          have x2 : (idx : Int) < (l.length : Int) := by omega
          have x3 : IntKind.i64.wrap ((idx : Int) + 1) = ((idx + 1 : Nat) : Int) := by rw [IntKind.wrap_i64]; omega
          have x4 : (p.kind != 0) = false := by simpa using hp2
          have k3 := ok_kStep w p hW (by omega)
          have hW' := stepOk hW p
          obtain ⟨s', hZ', hS'⟩ := hzW_step hZ p (by omega)
          obtain ⟨reads', hI'⟩ := scans_step hZ gk hS' hp2 hS
          have hst' := step_stopped (d := dd) hp2 hS' hst
          have hB : (true || p.thread == 1) = true := by rfl
          rw [hB] at hI'
          clear hS'
          generalize (stepM w p).2 = bb at k3
          generalize (stepM w p).1 = w' at k3 hZ' hW' hI' hst'
          obtain ⟨y0, hy0, hT0⟩ := hZ'.get (i := 0) (by decide)
          have k7 := ok_kDone y0
          have hlen' : ∀ j, j < 3 → (hadN had true w' j).length ≤ 1 + (idx + 1) := fun j hj => Nat.le_trans (hadN_len had true w' j (by have := hlen j hj; omega)) (by have := hlen j hj; omega)
          obtain ⟨hq, hqe⟩ : ∃ hq, hq = hadN had true w' := ⟨_, rfl⟩
          rw [← hqe] at hI' hlen'
          have x6 : (w'.tasks.length : Int) = 3 := by have := hZ'.len; omega
          have x7 : 0 < w'.tasks.length := by omega
          have x8 : (0 : Int) < 3 := by decide
          have F23 := And.intro F5 (And.intro @x2 (And.intro @x3 (And.intro @hp1 (And.intro @x4 (And.intro @x6 (And.intro @x7 (And.intro @x8 @hy0)))))))
          refine eS fun _ hn316 _ _ => ?_;refine eO fun _ hk317 => ?_;refine tZ F23 ?_;refine hk317 _ ?_;refine hn316 (some ([3,5,6,8,48,49,50,51], none)) _ ?_;refine eS fun _ hn318 _ _ => ?_;refine eCt ?_;refine hn318 (some ([3,5,6,8,48,49,50], none)) _ ?_;refine eS fun _ hn319 _ he319 => ?_;refine eB fun _ hn320 _ _ he320 => ?_;refine eS fun _ hn321 _ _ => ?_;refine eO fun _ hk322 => ?_;refine tC 1 F23 ?_;refine tC 1 F23 ?_;refine tZ F23 ?_;refine hk322 _ ?_;refine hn321 (some ([3,5,6,8,10,48,49,50], none)) _ ?_;refine eS fun _ hn323 _ _ => ?_;refine eS fun _ hn324 _ _ => ?_;refine eO fun _ hk325 => ?_;refine tC 2 F23 ?_;refine tZ F23 ?_;refine hk325 _ ?_;refine hn324 (some ([3,5,6,8,10,48,49,50,56], none)) _ ?_;refine eCf ?_;refine hn323 (some ([3,5,6,8,10,48,49,50], none)) _ ?_;refine eS fun _ hn326 _ _ => ?_;refine eO fun _ hk327 => ?_;refine tC 1 F23 ?_;refine tC 1 F23 ?_;refine tS 1 F23 ?_;refine Or.inl (Or.inl ⟨_, k3, ?_⟩);refine tZ F23 ?_;refine hk327 _ ?_;refine hn326 (some ([3,5,6,8,10,48,49,50], none)) _ ?_;refine eS fun _ hn328 _ _ => ?_;refine eS fun _ hn329 _ _ => ?_
          refine eO fun _ hk330 => ?_;refine tC 2 F23 ?_;refine tZ F23 ?_;refine hk330 _ ?_;refine hn329 (some ([3,5,6,8,10,48,49,50,66], none)) _ ?_;refine eCf ?_;refine hn328 (some ([3,5,6,8,10,48,49,50], none)) _ ?_;refine eS fun _ hn331 _ _ => ?_;refine eO fun _ hk332 => ?_;refine tC 4 F23 ?_;refine tC 1 F23 ?_;refine tL F23 ?_;refine hk332 _ ?_;refine hn331 (some ([3,5,6,8,48,49,50], none)) _ ?_;refine eS fun _ hn333 _ _ => ?_;refine eS fun _ hn334 _ _ => ?_;refine eO fun _ hk335 => ?_;refine tL F23 ?_;refine hk335 _ ?_;refine hn334 (some ([3,5,6,8,48,49,50,73], none)) _ ?_;refine eB fun _ _ hx336 _ _ => ?_;refine eW (Hs2Inv L l idx w' true had) (3) (some ([3,5,6,8,48,49,50,73], some ([0,1,2,3,4,5], 6))) ([]) ?_ ?_
          · try refine lp0 ?_
            exact ⟨0, had, by omega, by omega, fun j hj => absurd hj (by omega), fun _ _ => rfl, by rfl⟩
          · intro k S1 hI
            obtain ⟨i, R, hi, rfl, hR1, hR2, rfl⟩ := hI
            have hcas2 : (i = 3 ∧ y0.live = true) ∨ (i = 3 ∧ y0.live = false) ∨ (i = 0 ∧ (had 0).getLast? = some (Wd w'.m (hazP 0)).val) ∨ (i = 0 ∧ ¬ (had 0).getLast? = some (Wd w'.m (hazP 0)).val) ∨ (i = 1 ∧ (had 1).getLast? = some (Wd w'.m (hazP 1)).val) ∨ (i = 1 ∧ ¬ (had 1).getLast? = some (Wd w'.m (hazP 1)).val) ∨ (i = 2 ∧ (had 2).getLast? = some (Wd w'.m (hazP 2)).val) ∨ (i = 2 ∧ ¬ (had 2).getLast? = some (Wd w'.m (hazP 2)).val) := by
              have h3 : i = 3 ∨ i = 0 ∨ i = 1 ∨ i = 2 := by omega
              rcases h3 with rfl | rfl | rfl | rfl
              · cases y0.live
                · exact .inr (.inl ⟨rfl, rfl⟩)
                · exact .inl ⟨rfl, rfl⟩
              · by_cases h9 : (had 0).getLast? = some (Wd w'.m (hazP 0)).val
                · exact .inr (.inr (.inl ⟨rfl, h9⟩))
                · exact .inr (.inr (.inr (.inl ⟨rfl, h9⟩)))
              · by_cases h9 : (had 1).getLast? = some (Wd w'.m (hazP 1)).val
                · exact .inr (.inr (.inr (.inr (.inl ⟨rfl, h9⟩))))
                · exact .inr (.inr (.inr (.inr (.inr (.inl ⟨rfl, h9⟩)))))
              · by_cases h9 : (had 2).getLast? = some (Wd w'.m (hazP 2)).val
                · exact .inr (.inr (.inr (.inr (.inr (.inr (.inl ⟨rfl, h9⟩))))))
                · exact .inr (.inr (.inr (.inr (.inr (.inr (.inr ⟨rfl, h9⟩))))))
            intro _ hn337 _ he337
            rcases hcas2 with ⟨rfl, hlv⟩ | ⟨rfl, hlv⟩ | ⟨rfl, hsame⟩ | ⟨rfl, hdiff⟩ | ⟨rfl, hsame⟩ | ⟨rfl, hdiff⟩ | ⟨rfl, hsame⟩ | ⟨rfl, hdiff⟩
            · skip
              have t1 : ¬ ((3 : Nat) : Int) < 3 := by decide
              rw [hlv] at k7
              have F24 := And.intro F23 @t1
              refine eS fun _ hn338 _ _ => ?_;refine eO fun _ hk339 => ?_;refine tZ F24 ?_;refine hk339 _ ?_;refine hn338 (some ([3,5,6,8,48,49,50,73,74], none)) _ ?_;refine eS fun _ _ _ he340 => ?_;refine eCf ?_;refine he340 4 _ ?_;refine he337 4 _ ?_;refine hx336 _ ?_;refine hn333 (some ([3,5,6,8,48,49,50], none)) _ ?_;refine eS fun _ hn341 _ _ => ?_;refine eO fun _ hk342 => ?_;refine tC 2 F24 ?_;refine tC 1 F24 ?_;refine tC 1 F24 ?_;refine tL F24 ?_;refine Or.inl (Or.inl ⟨_, k7, ?_⟩);refine hk342 _ ?_;refine hn341 (some ([3,5,6,8,48,49,50,113], none)) _ ?_;refine eCf ?_;refine hn320 _ ?_;refine hn319 (some ([3,5,6,8,48,49,50], none)) _ ?_;refine eO fun _ hk343 => ?_;refine tC 1 F24 ?_;refine tL F24 ?_;refine hk343 _ ?_;refine hn58 (l.length - (idx + 1)) (some ([3,5,6,8,48,49,50], some ([0,1,2,3,4,5], 6))) _ ?_ ?_
              all_goals try refine lp0 ?_
              · omega
              · exact ⟨idx + 1, w', s', hq, _, reads', by omega, hZ', by have e9 : 2 + (idx + 1) = 2 + idx + 1 := rfl; rw [e9]; exact hW', hst', hI', hlen', by omega, by rw [hqe, ← hR1 0 (by decide), ← hR1 1 (by decide), ← hR1 2 (by decide)]⟩
            · skip
              have t1 : ¬ ((3 : Nat) : Int) < 3 := by decide
              rw [hlv] at k7
              have hW2 := worldOk_up hW' (show 2 + idx + 1 ≤ 2 + 120 by omega)
              obtain ⟨s9, x9, hZ9, hd9, hx9, hf9, hfit⟩ := scans_alone hZ' gk (by unfold stoppedM; rw [hst']; rfl) hI' (k := 6) (by decide)
              change (aloneM w' (((0 : Nat) : Int) + 1) 6).2 = true at hd9
              change HzW dd (aloneM w' (((0 : Nat) : Int) + 1) 6).1 s9 at hZ9
              have k8 := ok_kAlone w' (((0 : Nat) : Int) + 1) 6 hW2 (by show 2 + 120 + 6 ≤ 900; decide)
              have hW9 := alone_ok hW2 (((0 : Nat) : Int) + 1) 6
              rw [hd9] at k8
              change Ok _ [_, sI 1, _] _ at k8
              generalize (aloneM w' (((0 : Nat) : Int) + 1) 6).1 = w9 at k8 hZ9 hW9
              obtain ⟨y9, hy9, hT9⟩ := hZ9.get (i := 0) (by decide)
              have k9 := ok_kCode y9
              rw [hT9.code, hx9] at k9
              have hgx := (hW9.task y9 (List.mem_of_getElem? hy9)).good (s9 0) hT9.code
              rw [hx9] at hgx
              have hgx2 : x9.held.length ≤ 1000 := by have h9 : ScanOk _ x9 := hgx; have := h9.held; simp at this; omega
              have k10 := ok_hzHeld (.scan x9) (fun z hz => by cases hz; exact hgx2)
              rw [show heldH (.scan x9) = some x9.held from if_pos hf9] at k10
              change Ok _ [eCode hz (some (.scan x9))] (.tup [.sl 1 0 (x9.held.map eH1), sB true]) at k10
              have kf := ok_l14fits [(0, hq 0), (0, hq 1), (0, hq 2)] (fun q hq => by
                simp only [List.mem_cons, List.not_mem_nil, or_false] at hq
                rcases hq with rfl | rfl | rfl
                · exact Nat.le_trans (hlen' 0 (by decide)) (by omega)
                · exact Nat.le_trans (hlen' 1 (by decide)) (by omega)
                · exact Nat.le_trans (hlen' 2 (by decide)) (by omega)) x9.held 0 1
              change Ok _ _ (sB (fitsM x9.held [hq 0, hq 1, hq 2])) at kf
              rw [hfit] at kf
              change Ok _ [_, .sl 1 1 [[.sl 1 0 ((hq 0).map eH1)], [.sl 1 0 ((hq 1).map eH1)], [.sl 1 0 ((hq 2).map eH1)]]] _ at kf
              rw [show hq 0 = R 0 by rw [hqe]; exact (hR1 0 (by decide)).symm, show hq 1 = R 1 by rw [hqe]; exact (hR1 1 (by decide)).symm, show hq 2 = R 2 by rw [hqe]; exact (hR1 2 (by decide)).symm] at kf
              have v1 : (w9.tasks.length : Int) = 3 := by have := hZ9.len; omega
              have v2 : 0 < w9.tasks.length := by omega
              have v3 : (0 : Int) < 3 := by decide
              generalize x9.held = hd9l at k10 kf
              have F25 := And.intro F23 (And.intro @t1 (And.intro @v1 (And.intro @v2 (And.intro @v3 @hy9))))
              refine eS fun _ hn344 _ _ => ?_;refine eO fun _ hk345 => ?_;refine tZ F25 ?_;refine hk345 _ ?_;refine hn344 (some ([3,5,6,8,48,49,50,73,74], none)) _ ?_;refine eS fun _ _ _ he346 => ?_;refine eCf ?_;refine he346 4 _ ?_;refine he337 4 _ ?_;refine hx336 _ ?_;refine hn333 (some ([3,5,6,8,48,49,50], none)) _ ?_;refine eS fun _ hn347 _ _ => ?_;refine eO fun _ hk348 => ?_;refine tC 2 F25 ?_;refine tC 1 F25 ?_;refine tC 1 F25 ?_;refine tL F25 ?_;refine Or.inl (Or.inl ⟨_, k7, ?_⟩);refine hk348 _ ?_;refine hn347 (some ([3,5,6,8,48,49,50,113], none)) _ ?_;refine eCt ?_;refine he320 2 _ (by decide) ?_;refine he319 2 _ ?_;refine he58 2 _ ?_;refine hx57 _ ?_;refine hn54 (some ([3,6], none)) _ ?_;refine eS fun _ hn349 _ _ => ?_;refine eO fun _ hk350 => ?_;refine tC 1 F25 ?_;refine tS 1 F25 ?_;refine Or.inl (Or.inl ⟨_, k8, ?_⟩);refine tC 5 F25 ?_;refine tL F25 ?_;refine hk350 _ ?_;refine hn349 (some ([6,13,14], none)) _ ?_;refine eS fun _ hn351 _ _ => ?_;refine eS fun _ hn352 _ _ => ?_;refine eO fun _ hk353 => ?_;refine tC 2 F25 ?_;refine tZ F25 ?_;refine hk353 _ ?_;refine hn352 (some ([6,13,14,123], none)) _ ?_
              refine eCf ?_;refine hn351 (some ([6,13,14], none)) _ ?_;refine eS fun _ hn354 _ _ => ?_;refine eO fun _ hk355 => ?_;refine tC 2 F25 ?_;refine tC 1 F25 ?_;refine tC 1 F25 ?_;refine tS 1 F25 ?_;refine Or.inl (Or.inl ⟨_, k9, ?_⟩);refine tS 1 F25 ?_;refine Or.inl (Or.inl ⟨_, k10, ?_⟩);refine tL F25 ?_;refine hk355 _ ?_;refine hn354 (some ([6,14,15,16], none)) _ ?_;refine eS fun _ hn356 _ _ => ?_;refine eS fun _ hn357 _ _ => ?_;refine eO fun _ hk358 => ?_;refine tL F25 ?_;refine hk358 _ ?_;refine hn357 (some ([6,15,138], none)) _ ?_;refine eCf ?_;refine hn356 (some ([6,15], none)) _ ?_;refine eS fun _ hn359 _ _ => ?_;refine eO fun _ hk360 => ?_;refine tS 1 F25 ?_;refine tS 1 F25 ?_;refine ⟨_, kg _ _ _ _ rfl rfl rfl, ?_⟩;refine tS 1 F25 ?_;refine Or.inl (Or.inl ⟨_, kf, ?_⟩);refine tS 1 F25 ?_;refine tS 1 F25 ?_;refine Or.inl (Or.inl ⟨_, ka, ?_⟩);refine tL F25 ?_;refine hk360 _ ?_;refine hn359 (some ([2], none)) _ ?_
              exact sf1 F25
            · skip
              have t1 : ((0 : Nat) : Int) < 3 := by decide
              have t2 : IntKind.i64.wrap (((0 : Nat) : Int) + 1) = ((0 + 1 : Nat) : Int) := by decide
              have t3 : (0 : Int) ≤ ((0 : Nat) : Int) := by decide
              have kh2 := kh 0 (by decide)
              have kv := ok_l14val w' (hazP 0) hW' (by omega)
              have hRi : R 0 = had 0 := hR2 0 (by decide)
              obtain ⟨A, a0, hA⟩ : ∃ (A : List Int) (a0 : Int), had 0 = A ++ [a0] := last_snoc (hS.now 0 (by decide))
              have hln := hlen 0 (by decide)
              rw [hA] at hln
              simp only [List.length_append, List.length_singleton] at hln
              have y1 : (R 0)[A.length]? = some a0 := by rw [hRi, hA, List.getElem?_append_right (Nat.le_refl _), Nat.sub_self]; rfl
              have y2 : (R 0).length = A.length + 1 := by rw [hRi, hA]; simp
              have y3 : IntKind.i64.wrap (((A.length + 1 : Nat) : Int) - 1) = (A.length : Int) := by rw [IntKind.wrap_i64]; omega
              have y4 : A.length < A.length + 1 := by omega
              have y5 : (A.length : Int) < ((A.length + 1 : Nat) : Int) := by omega
              have y6 : A.length + 1 + 1 ≤ 1000000 := by omega
              have y7 : (A.length + 1 + 1) * 8 ≤ 140737488355328 := by omega
              have hN : hadN had true w' 0 = had 0 := by
                unfold hadN
                rw [if_pos rfl, if_pos hsame]
              have y8 : (a0 != (Wd w'.m (hazP 0)).val) = false := by rw [hA, List.getLast?_append] at hsame; simpa using hsame
              generalize (Wd w'.m (hazP 0)).val = v at kv y8
              have F26 := And.intro F23 (And.intro @t1 (And.intro @t2 (And.intro @t3 (And.intro @y1 (And.intro @y2 (And.intro @y3 (And.intro @y4 (And.intro @y5 (And.intro @y6 (And.intro @y7 @y8))))))))))
              refine eS fun _ hn361 _ _ => ?_;refine eO fun _ hk362 => ?_;refine tZ F26 ?_;refine hk362 _ ?_;refine hn361 (some ([3,5,6,8,48,49,50,73,74], none)) _ ?_;refine eS fun _ hn363 _ _ => ?_;refine eCt ?_;refine hn363 (some ([3,5,6,8,48,49,50,73], none)) _ ?_;refine eS fun _ hn364 _ _ => ?_;refine eB fun _ hn365 _ _ _ => ?_;refine eS fun _ hn366 _ _ => ?_;refine eO fun _ hk367 => ?_;refine tL F26 ?_;refine hk367 _ ?_;refine hn366 (some ([3,5,6,8,11,48,49,50,73], none)) _ ?_;refine eS fun _ hn368 _ _ => ?_;refine eD [] (n := 5) fun _ hk369 => ?_;refine sq0 ?_;refine fC 1 F26 ?_;refine fC 1 F26 ?_;refine fC 2 F26 ?_;refine fL F26 ?_;refine ⟨_, kh2, ?_⟩;refine hk369 _ ?_;refine sr0 ?_;refine tS 1 F26 ?_;refine Or.inl (Or.inl ⟨_, kv, ?_⟩);refine tL F26 ?_;refine hn368 (some ([3,5,6,8,11,12,48,49,50,73], none)) _ ?_;refine eS fun _ hn371 _ _ => ?_;refine eO fun _ hk372 => ?_;refine tL F26 ?_;refine hk372 _ ?_;refine hn371 (some ([3,5,6,8,11,12,48,49,50,73,83], none)) _ ?_;refine eCf ?_;refine eS fun _ hn373 _ _ => ?_;refine eD [] (n := 11) fun _ hk374 => ?_
              refine sq0 ?_;refine fC 2 F26 ?_;refine fC 1 F26 ?_;refine fC 2 F26 ?_;refine fC 1 F26 ?_;refine fC 2 F26 ?_;refine fC 1 F26 ?_;refine fC 1 F26 ?_;refine fL F26 ?_;refine hk374 _ ?_;refine sr0 ?_;refine tZ F26 ?_;refine hn373 (some ([3,5,6,8,11,12,48,49,50,73,99], none)) _ ?_;refine eCf ?_;refine hn365 _ ?_;refine hn364 (some ([3,5,6,8,48,49,50,73], none)) _ ?_;refine eO fun _ hk376 => ?_;refine tC 1 F26 ?_;refine tL F26 ?_;refine hk376 _ ?_;refine hn337 (3 - (0 + 1)) (some ([3,5,6,8,48,49,50,73], some ([0,1,2,3,4,5], 6))) _ ?_ ?_
              all_goals try refine lp0 ?_
              · omega
              · exact ⟨0 + 1, R, by omega, by omega, rows_same hR1 (by rw [hN]; exact hRi), fun j hj => hR2 j (by omega), by rfl⟩
            · skip
              have t1 : ((0 : Nat) : Int) < 3 := by decide
              have t2 : IntKind.i64.wrap (((0 : Nat) : Int) + 1) = ((0 + 1 : Nat) : Int) := by decide
              have t3 : (0 : Int) ≤ ((0 : Nat) : Int) := by decide
              have kh2 := kh 0 (by decide)
              have kv := ok_l14val w' (hazP 0) hW' (by omega)
              have hRi : R 0 = had 0 := hR2 0 (by decide)
              obtain ⟨A, a0, hA⟩ : ∃ (A : List Int) (a0 : Int), had 0 = A ++ [a0] := last_snoc (hS.now 0 (by decide))
              have hln := hlen 0 (by decide)
              rw [hA] at hln
              simp only [List.length_append, List.length_singleton] at hln
              have y1 : (R 0)[A.length]? = some a0 := by rw [hRi, hA, List.getElem?_append_right (Nat.le_refl _), Nat.sub_self]; rfl
              have y2 : (R 0).length = A.length + 1 := by rw [hRi, hA]; simp
              have y3 : IntKind.i64.wrap (((A.length + 1 : Nat) : Int) - 1) = (A.length : Int) := by rw [IntKind.wrap_i64]; omega
              have y4 : A.length < A.length + 1 := by omega
              have y5 : (A.length : Int) < ((A.length + 1 : Nat) : Int) := by omega
              have y6 : A.length + 1 + 1 ≤ 1000000 := by omega
              have y7 : (A.length + 1 + 1) * 8 ≤ 140737488355328 := by omega
              have hN : hadN had true w' 0 = R 0 ++ [(Wd w'.m (hazP 0)).val] := by
                unfold hadN
                rw [if_pos rfl, if_neg hdiff, hRi]
              have y8 : (a0 != (Wd w'.m (hazP 0)).val) = true := by rw [hA, List.getLast?_append] at hdiff; simpa using hdiff
              generalize (Wd w'.m (hazP 0)).val = v at kv y8 hN
              have F27 := And.intro F23 (And.intro @t1 (And.intro @t2 (And.intro @t3 (And.intro @y1 (And.intro @y2 (And.intro @y3 (And.intro @y4 (And.intro @y5 (And.intro @y6 (And.intro @y7 @y8))))))))))
              refine eS fun _ hn377 _ _ => ?_;refine eO fun _ hk378 => ?_;refine tZ F27 ?_;refine hk378 _ ?_;refine hn377 (some ([3,5,6,8,48,49,50,73,74], none)) _ ?_;refine eS fun _ hn379 _ _ => ?_;refine eCt ?_;refine hn379 (some ([3,5,6,8,48,49,50,73], none)) _ ?_;refine eS fun _ hn380 _ _ => ?_;refine eB fun _ hn381 _ _ _ => ?_;refine eS fun _ hn382 _ _ => ?_;refine eO fun _ hk383 => ?_;refine tL F27 ?_;refine hk383 _ ?_;refine hn382 (some ([3,5,6,8,11,48,49,50,73], none)) _ ?_;refine eS fun _ hn384 _ _ => ?_;refine eD [] (n := 5) fun _ hk385 => ?_;refine sq0 ?_;refine fC 1 F27 ?_;refine fC 1 F27 ?_;refine fC 2 F27 ?_;refine fL F27 ?_;refine ⟨_, kh2, ?_⟩;refine hk385 _ ?_;refine sr0 ?_;refine tS 1 F27 ?_;refine Or.inl (Or.inl ⟨_, kv, ?_⟩);refine tL F27 ?_;refine hn384 (some ([3,5,6,8,11,12,48,49,50,73], none)) _ ?_;refine eS fun _ hn387 _ _ => ?_;refine eO fun _ hk388 => ?_;refine tL F27 ?_;refine hk388 _ ?_;refine hn387 (some ([3,5,6,8,11,12,48,49,50,73,83], none)) _ ?_;refine eCf ?_;refine eS fun _ hn389 _ _ => ?_;refine eD [] (n := 11) fun _ hk390 => ?_
              refine sq0 ?_;refine fC 2 F27 ?_;refine fC 1 F27 ?_;refine fC 2 F27 ?_;refine fC 1 F27 ?_;refine fC 2 F27 ?_;refine fC 1 F27 ?_;refine fC 1 F27 ?_;refine fL F27 ?_;refine hk390 _ ?_;refine sr0 ?_;refine tZ F27 ?_;refine hn389 (some ([3,5,6,8,11,12,48,49,50,73,99], none)) _ ?_;refine eCt ?_;refine eO fun _ hk392 => ?_;refine tC 3 F27 ?_;refine tC 1 F27 ?_;refine tC 3 F27 ?_;refine tC 1 F27 ?_;refine tZ F27 ?_;refine hk392 _ ?_;refine hn381 _ ?_;refine hn380 (some ([3,5,6,8,48,49,50,73], none)) _ ?_;refine eO fun _ hk393 => ?_;refine tC 1 F27 ?_;refine tL F27 ?_;refine hk393 _ ?_;refine hn337 (3 - (0 + 1)) (some ([3,5,6,8,48,49,50,73], some ([0,1,2,7,4,5], 6))) _ ?_ ?_
              all_goals try refine lp0 ?_
              · omega
              · obtain ⟨R', e0, e1, e3, e4⟩ := rows_put R (R 0 ++ [v]) hR1 hN hR2
                exact ⟨0 + 1, R', by omega, by omega, e3, e4, by rw [e0, e1 1 (by decide), e1 2 (by decide), rowI_snoc]; try rfl⟩
            · skip
              have t1 : ((1 : Nat) : Int) < 3 := by decide
              have t2 : IntKind.i64.wrap (((1 : Nat) : Int) + 1) = ((1 + 1 : Nat) : Int) := by decide
              have t3 : (0 : Int) ≤ ((1 : Nat) : Int) := by decide
              have kh2 := kh 1 (by decide)
              have kv := ok_l14val w' (hazP 1) hW' (by omega)
              have hRi : R 1 = had 1 := hR2 1 (by decide)
              obtain ⟨A, a0, hA⟩ : ∃ (A : List Int) (a0 : Int), had 1 = A ++ [a0] := last_snoc (hS.now 1 (by decide))
              have hln := hlen 1 (by decide)
              rw [hA] at hln
              simp only [List.length_append, List.length_singleton] at hln
              have y1 : (R 1)[A.length]? = some a0 := by rw [hRi, hA, List.getElem?_append_right (Nat.le_refl _), Nat.sub_self]; rfl
              have y2 : (R 1).length = A.length + 1 := by rw [hRi, hA]; simp
              have y3 : IntKind.i64.wrap (((A.length + 1 : Nat) : Int) - 1) = (A.length : Int) := by rw [IntKind.wrap_i64]; omega
              have y4 : A.length < A.length + 1 := by omega
              have y5 : (A.length : Int) < ((A.length + 1 : Nat) : Int) := by omega
              have y6 : A.length + 1 + 1 ≤ 1000000 := by omega
              have y7 : (A.length + 1 + 1) * 8 ≤ 140737488355328 := by omega
              have hN : hadN had true w' 1 = had 1 := by
                unfold hadN
                rw [if_pos rfl, if_pos hsame]
              have y8 : (a0 != (Wd w'.m (hazP 1)).val) = false := by rw [hA, List.getLast?_append] at hsame; simpa using hsame
              generalize (Wd w'.m (hazP 1)).val = v at kv y8
              have F28 := And.intro F23 (And.intro @t1 (And.intro @t2 (And.intro @t3 (And.intro @y1 (And.intro @y2 (And.intro @y3 (And.intro @y4 (And.intro @y5 (And.intro @y6 (And.intro @y7 @y8))))))))))
              refine eS fun _ hn394 _ _ => ?_;refine eO fun _ hk395 => ?_;refine tZ F28 ?_;refine hk395 _ ?_;refine hn394 (some ([3,5,6,8,48,49,50,73,74], none)) _ ?_;refine eS fun _ hn396 _ _ => ?_;refine eCt ?_;refine hn396 (some ([3,5,6,8,48,49,50,73], none)) _ ?_;refine eS fun _ hn397 _ _ => ?_;refine eB fun _ hn398 _ _ _ => ?_;refine eS fun _ hn399 _ _ => ?_;refine eO fun _ hk400 => ?_;refine tL F28 ?_;refine hk400 _ ?_;refine hn399 (some ([3,5,6,8,11,48,49,50,73], none)) _ ?_;refine eS fun _ hn401 _ _ => ?_;refine eD [] (n := 5) fun _ hk402 => ?_;refine sq0 ?_;refine fC 1 F28 ?_;refine fC 1 F28 ?_;refine fC 2 F28 ?_;refine fL F28 ?_;refine ⟨_, kh2, ?_⟩;refine hk402 _ ?_;refine sr0 ?_;refine tS 1 F28 ?_;refine Or.inl (Or.inl ⟨_, kv, ?_⟩);refine tL F28 ?_;refine hn401 (some ([3,5,6,8,11,12,48,49,50,73], none)) _ ?_;refine eS fun _ hn404 _ _ => ?_;refine eO fun _ hk405 => ?_;refine tL F28 ?_;refine hk405 _ ?_;refine hn404 (some ([3,5,6,8,11,12,48,49,50,73,83], none)) _ ?_;refine eCf ?_;refine eS fun _ hn406 _ _ => ?_;refine eD [] (n := 11) fun _ hk407 => ?_
              refine sq0 ?_;refine fC 2 F28 ?_;refine fC 1 F28 ?_;refine fC 2 F28 ?_;refine fC 1 F28 ?_;refine fC 2 F28 ?_;refine fC 1 F28 ?_;refine fC 1 F28 ?_;refine fL F28 ?_;refine hk407 _ ?_;refine sr0 ?_;refine tZ F28 ?_;refine hn406 (some ([3,5,6,8,11,12,48,49,50,73,99], none)) _ ?_;refine eCf ?_;refine hn398 _ ?_;refine hn397 (some ([3,5,6,8,48,49,50,73], none)) _ ?_;refine eO fun _ hk409 => ?_;refine tC 1 F28 ?_;refine tL F28 ?_;refine hk409 _ ?_;refine hn337 (3 - (1 + 1)) (some ([3,5,6,8,48,49,50,73], some ([0,1,2,3,4,5], 6))) _ ?_ ?_
              all_goals try refine lp0 ?_
              · omega
              · exact ⟨1 + 1, R, by omega, by omega, rows_same hR1 (by rw [hN]; exact hRi), fun j hj => hR2 j (by omega), by rfl⟩
            · skip
              have t1 : ((1 : Nat) : Int) < 3 := by decide
              have t2 : IntKind.i64.wrap (((1 : Nat) : Int) + 1) = ((1 + 1 : Nat) : Int) := by decide
              have t3 : (0 : Int) ≤ ((1 : Nat) : Int) := by decide
              have kh2 := kh 1 (by decide)
              have kv := ok_l14val w' (hazP 1) hW' (by omega)
              have hRi : R 1 = had 1 := hR2 1 (by decide)
              obtain ⟨A, a0, hA⟩ : ∃ (A : List Int) (a0 : Int), had 1 = A ++ [a0] := last_snoc (hS.now 1 (by decide))
              have hln := hlen 1 (by decide)
              rw [hA] at hln
              simp only [List.length_append, List.length_singleton] at hln
              have y1 : (R 1)[A.length]? = some a0 := by rw [hRi, hA, List.getElem?_append_right (Nat.le_refl _), Nat.sub_self]; rfl
              have y2 : (R 1).length = A.length + 1 := by rw [hRi, hA]; simp
              have y3 : IntKind.i64.wrap (((A.length + 1 : Nat) : Int) - 1) = (A.length : Int) := by rw [IntKind.wrap_i64]; omega
              have y4 : A.length < A.length + 1 := by omega
              have y5 : (A.length : Int) < ((A.length + 1 : Nat) : Int) := by omega
              have y6 : A.length + 1 + 1 ≤ 1000000 := by omega
              have y7 : (A.length + 1 + 1) * 8 ≤ 140737488355328 := by omega
              have hN : hadN had true w' 1 = R 1 ++ [(Wd w'.m (hazP 1)).val] := by
                unfold hadN
                rw [if_pos rfl, if_neg hdiff, hRi]
              have y8 : (a0 != (Wd w'.m (hazP 1)).val) = true := by rw [hA, List.getLast?_append] at hdiff; simpa using hdiff
              generalize (Wd w'.m (hazP 1)).val = v at kv y8 hN
              have F29 := And.intro F23 (And.intro @t1 (And.intro @t2 (And.intro @t3 (And.intro @y1 (And.intro @y2 (And.intro @y3 (And.intro @y4 (And.intro @y5 (And.intro @y6 (And.intro @y7 @y8))))))))))
              refine eS fun _ hn410 _ _ => ?_;refine eO fun _ hk411 => ?_;refine tZ F29 ?_;refine hk411 _ ?_;refine hn410 (some ([3,5,6,8,48,49,50,73,74], none)) _ ?_;refine eS fun _ hn412 _ _ => ?_;refine eCt ?_;refine hn412 (some ([3,5,6,8,48,49,50,73], none)) _ ?_;refine eS fun _ hn413 _ _ => ?_;refine eB fun _ hn414 _ _ _ => ?_;refine eS fun _ hn415 _ _ => ?_;refine eO fun _ hk416 => ?_;refine tL F29 ?_;refine hk416 _ ?_;refine hn415 (some ([3,5,6,8,11,48,49,50,73], none)) _ ?_;refine eS fun _ hn417 _ _ => ?_;refine eD [] (n := 5) fun _ hk418 => ?_;refine sq0 ?_;refine fC 1 F29 ?_;refine fC 1 F29 ?_;refine fC 2 F29 ?_;refine fL F29 ?_;refine ⟨_, kh2, ?_⟩;refine hk418 _ ?_;refine sr0 ?_;refine tS 1 F29 ?_;refine Or.inl (Or.inl ⟨_, kv, ?_⟩);refine tL F29 ?_;refine hn417 (some ([3,5,6,8,11,12,48,49,50,73], none)) _ ?_;refine eS fun _ hn420 _ _ => ?_;refine eO fun _ hk421 => ?_;refine tL F29 ?_;refine hk421 _ ?_;refine hn420 (some ([3,5,6,8,11,12,48,49,50,73,83], none)) _ ?_;refine eCf ?_;refine eS fun _ hn422 _ _ => ?_;refine eD [] (n := 11) fun _ hk423 => ?_
              refine sq0 ?_;refine fC 2 F29 ?_;refine fC 1 F29 ?_;refine fC 2 F29 ?_;refine fC 1 F29 ?_;refine fC 2 F29 ?_;refine fC 1 F29 ?_;refine fC 1 F29 ?_;refine fL F29 ?_;refine hk423 _ ?_;refine sr0 ?_;refine tZ F29 ?_;refine hn422 (some ([3,5,6,8,11,12,48,49,50,73,99], none)) _ ?_;refine eCt ?_;refine eO fun _ hk425 => ?_;refine tC 3 F29 ?_;refine tC 1 F29 ?_;refine tC 3 F29 ?_;refine tC 1 F29 ?_;refine tZ F29 ?_;refine hk425 _ ?_;refine hn414 _ ?_;refine hn413 (some ([3,5,6,8,48,49,50,73], none)) _ ?_;refine eO fun _ hk426 => ?_;refine tC 1 F29 ?_;refine tL F29 ?_;refine hk426 _ ?_;refine hn337 (3 - (1 + 1)) (some ([3,5,6,8,48,49,50,73], some ([0,1,2,3,7,5], 6))) _ ?_ ?_
              all_goals try refine lp0 ?_
              · omega
              · obtain ⟨R', e0, e1, e3, e4⟩ := rows_put R (R 1 ++ [v]) hR1 hN hR2
                exact ⟨1 + 1, R', by omega, by omega, e3, e4, by rw [e0, e1 0 (by decide), e1 2 (by decide), rowI_snoc]; try rfl⟩
            · skip
              have t1 : ((2 : Nat) : Int) < 3 := by decide
              have t2 : IntKind.i64.wrap (((2 : Nat) : Int) + 1) = ((2 + 1 : Nat) : Int) := by decide
              have t3 : (0 : Int) ≤ ((2 : Nat) : Int) := by decide
              have kh2 := kh 2 (by decide)
              have kv := ok_l14val w' (hazP 2) hW' (by omega)
              have hRi : R 2 = had 2 := hR2 2 (by decide)
              obtain ⟨A, a0, hA⟩ : ∃ (A : List Int) (a0 : Int), had 2 = A ++ [a0] := last_snoc (hS.now 2 (by decide))
              have hln := hlen 2 (by decide)
              rw [hA] at hln
              simp only [List.length_append, List.length_singleton] at hln
              have y1 : (R 2)[A.length]? = some a0 := by rw [hRi, hA, List.getElem?_append_right (Nat.le_refl _), Nat.sub_self]; rfl
              have y2 : (R 2).length = A.length + 1 := by rw [hRi, hA]; simp
              have y3 : IntKind.i64.wrap (((A.length + 1 : Nat) : Int) - 1) = (A.length : Int) := by rw [IntKind.wrap_i64]; omega
              have y4 : A.length < A.length + 1 := by omega
              have y5 : (A.length : Int) < ((A.length + 1 : Nat) : Int) := by omega
              have y6 : A.length + 1 + 1 ≤ 1000000 := by omega
              have y7 : (A.length + 1 + 1) * 8 ≤ 140737488355328 := by omega
              have hN : hadN had true w' 2 = had 2 := by
                unfold hadN
                rw [if_pos rfl, if_pos hsame]
              have y8 : (a0 != (Wd w'.m (hazP 2)).val) = false := by rw [hA, List.getLast?_append] at hsame; simpa using hsame
              generalize (Wd w'.m (hazP 2)).val = v at kv y8
              have F30 := And.intro F23 (And.intro @t1 (And.intro @t2 (And.intro @t3 (And.intro @y1 (And.intro @y2 (And.intro @y3 (And.intro @y4 (And.intro @y5 (And.intro @y6 (And.intro @y7 @y8))))))))))
              refine eS fun _ hn427 _ _ => ?_;refine eO fun _ hk428 => ?_;refine tZ F30 ?_;refine hk428 _ ?_;refine hn427 (some ([3,5,6,8,48,49,50,73,74], none)) _ ?_;refine eS fun _ hn429 _ _ => ?_;refine eCt ?_;refine hn429 (some ([3,5,6,8,48,49,50,73], none)) _ ?_;refine eS fun _ hn430 _ _ => ?_;refine eB fun _ hn431 _ _ _ => ?_;refine eS fun _ hn432 _ _ => ?_;refine eO fun _ hk433 => ?_;refine tL F30 ?_;refine hk433 _ ?_;refine hn432 (some ([3,5,6,8,11,48,49,50,73], none)) _ ?_;refine eS fun _ hn434 _ _ => ?_;refine eD [] (n := 5) fun _ hk435 => ?_;refine sq0 ?_;refine fC 1 F30 ?_;refine fC 1 F30 ?_;refine fC 2 F30 ?_;refine fL F30 ?_;refine ⟨_, kh2, ?_⟩;refine hk435 _ ?_;refine sr0 ?_;refine tS 1 F30 ?_;refine Or.inl (Or.inl ⟨_, kv, ?_⟩);refine tL F30 ?_;refine hn434 (some ([3,5,6,8,11,12,48,49,50,73], none)) _ ?_;refine eS fun _ hn437 _ _ => ?_;refine eO fun _ hk438 => ?_;refine tL F30 ?_;refine hk438 _ ?_;refine hn437 (some ([3,5,6,8,11,12,48,49,50,73,83], none)) _ ?_;refine eCf ?_;refine eS fun _ hn439 _ _ => ?_;refine eD [] (n := 11) fun _ hk440 => ?_
              refine sq0 ?_;refine fC 2 F30 ?_;refine fC 1 F30 ?_;refine fC 2 F30 ?_;refine fC 1 F30 ?_;refine fC 2 F30 ?_;refine fC 1 F30 ?_;refine fC 1 F30 ?_;refine fL F30 ?_;refine hk440 _ ?_;refine sr0 ?_;refine tZ F30 ?_;refine hn439 (some ([3,5,6,8,11,12,48,49,50,73,99], none)) _ ?_;refine eCf ?_;refine hn431 _ ?_;refine hn430 (some ([3,5,6,8,48,49,50,73], none)) _ ?_;refine eO fun _ hk442 => ?_;refine tC 1 F30 ?_;refine tL F30 ?_;refine hk442 _ ?_;refine hn337 (3 - (2 + 1)) (some ([3,5,6,8,48,49,50,73], some ([0,1,2,3,4,5], 6))) _ ?_ ?_
              all_goals try refine lp0 ?_
              · omega
              · exact ⟨2 + 1, R, by omega, by omega, rows_same hR1 (by rw [hN]; exact hRi), fun j hj => hR2 j (by omega), by rfl⟩
            · skip
              have t1 : ((2 : Nat) : Int) < 3 := by decide
              have t2 : IntKind.i64.wrap (((2 : Nat) : Int) + 1) = ((2 + 1 : Nat) : Int) := by decide
              have t3 : (0 : Int) ≤ ((2 : Nat) : Int) := by decide
              have kh2 := kh 2 (by decide)
              have kv := ok_l14val w' (hazP 2) hW' (by omega)
              have hRi : R 2 = had 2 := hR2 2 (by decide)
              obtain ⟨A, a0, hA⟩ : ∃ (A : List Int) (a0 : Int), had 2 = A ++ [a0] := last_snoc (hS.now 2 (by decide))
              have hln := hlen 2 (by decide)
              rw [hA] at hln
              simp only [List.length_append, List.length_singleton] at hln
              have y1 : (R 2)[A.length]? = some a0 := by rw [hRi, hA, List.getElem?_append_right (Nat.le_refl _), Nat.sub_self]; rfl
              have y2 : (R 2).length = A.length + 1 := by rw [hRi, hA]; simp
              have y3 : IntKind.i64.wrap (((A.length + 1 : Nat) : Int) - 1) = (A.length : Int) := by rw [IntKind.wrap_i64]; omega
              have y4 : A.length < A.length + 1 := by omega
              have y5 : (A.length : Int) < ((A.length + 1 : Nat) : Int) := by omega
              have y6 : A.length + 1 + 1 ≤ 1000000 := by omega
              have y7 : (A.length + 1 + 1) * 8 ≤ 140737488355328 := by omega
              have hN : hadN had true w' 2 = R 2 ++ [(Wd w'.m (hazP 2)).val] := by
                unfold hadN
                rw [if_pos rfl, if_neg hdiff, hRi]
              have y8 : (a0 != (Wd w'.m (hazP 2)).val) = true := by rw [hA, List.getLast?_append] at hdiff; simpa using hdiff
              generalize (Wd w'.m (hazP 2)).val = v at kv y8 hN
              have F31 := And.intro F23 (And.intro @t1 (And.intro @t2 (And.intro @t3 (And.intro @y1 (And.intro @y2 (And.intro @y3 (And.intro @y4 (And.intro @y5 (And.intro @y6 (And.intro @y7 @y8))))))))))
              refine eS fun _ hn443 _ _ => ?_;refine eO fun _ hk444 => ?_;refine tZ F31 ?_;refine hk444 _ ?_;refine hn443 (some ([3,5,6,8,48,49,50,73,74], none)) _ ?_;refine eS fun _ hn445 _ _ => ?_;refine eCt ?_;refine hn445 (some ([3,5,6,8,48,49,50,73], none)) _ ?_;refine eS fun _ hn446 _ _ => ?_;refine eB fun _ hn447 _ _ _ => ?_;refine eS fun _ hn448 _ _ => ?_;refine eO fun _ hk449 => ?_;refine tL F31 ?_;refine hk449 _ ?_;refine hn448 (some ([3,5,6,8,11,48,49,50,73], none)) _ ?_;refine eS fun _ hn450 _ _ => ?_;refine eD [] (n := 5) fun _ hk451 => ?_;refine sq0 ?_;refine fC 1 F31 ?_;refine fC 1 F31 ?_;refine fC 2 F31 ?_;refine fL F31 ?_;refine ⟨_, kh2, ?_⟩;refine hk451 _ ?_;refine sr0 ?_;refine tS 1 F31 ?_;refine Or.inl (Or.inl ⟨_, kv, ?_⟩);refine tL F31 ?_;refine hn450 (some ([3,5,6,8,11,12,48,49,50,73], none)) _ ?_;refine eS fun _ hn453 _ _ => ?_;refine eO fun _ hk454 => ?_;refine tL F31 ?_;refine hk454 _ ?_;refine hn453 (some ([3,5,6,8,11,12,48,49,50,73,83], none)) _ ?_;refine eCf ?_;refine eS fun _ hn455 _ _ => ?_;refine eD [] (n := 11) fun _ hk456 => ?_
              refine sq0 ?_;refine fC 2 F31 ?_;refine fC 1 F31 ?_;refine fC 2 F31 ?_;refine fC 1 F31 ?_;refine fC 2 F31 ?_;refine fC 1 F31 ?_;refine fC 1 F31 ?_;refine fL F31 ?_;refine hk456 _ ?_;refine sr0 ?_;refine tZ F31 ?_;refine hn455 (some ([3,5,6,8,11,12,48,49,50,73,99], none)) _ ?_;refine eCt ?_;refine eO fun _ hk458 => ?_;refine tC 3 F31 ?_;refine tC 1 F31 ?_;refine tC 3 F31 ?_;refine tC 1 F31 ?_;refine tZ F31 ?_;refine hk458 _ ?_;refine hn447 _ ?_;refine hn446 (some ([3,5,6,8,48,49,50,73], none)) _ ?_;refine eO fun _ hk459 => ?_;refine tC 1 F31 ?_;refine tL F31 ?_;refine hk459 _ ?_;refine hn337 (3 - (2 + 1)) (some ([3,5,6,8,48,49,50,73], some ([0,1,2,3,4,7], 6))) _ ?_ ?_
              all_goals try refine lp0 ?_
              · omega
              · obtain ⟨R', e0, e1, e3, e4⟩ := rows_put R (R 2 ++ [v]) hR1 hN hR2
                exact ⟨2 + 1, R', by omega, by omega, e3, e4, by rw [e0, e1 0 (by decide), e1 1 (by decide), rowI_snoc]; try rfl⟩
end Go.Proofs.YtkoibcblmgmdmaaGreatDoor
