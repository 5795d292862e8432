/-
  TopSnapshot by shadows: trimming all cells; new stores; the example.
-/
import Derived.Test.YtijblpkdfmkcfaaKTl
namespace Go.Proofs.Ytijblpkdfmkcfaa
set_option linter.unusedSimpArgs false
set_option linter.unusedVariables false
open Go.RowKit Go.Maps

def idxL (n : Nat) : List Int := (List.range n).map fun i : Nat => (i : Int)
theorem idxL_succ (n : Nat) : idxL (n + 1) = idxL n ++ [(n : Int)] := by unfold idxL; rw [List.range_succ, List.map_append]; rfl
theorem idxL_len (n : Nat) : (idxL n).length = n := by unfold idxL; simp
theorem idxL_mem {n : Nat} {x : Int} : x ∈ idxL n ↔ 0 ≤ x ∧ x < n := by
  unfold idxL
  rw [List.mem_map]
  constructor
  · rintro ⟨i, hi, rfl⟩; have := List.mem_range.1 hi; omega
  · rintro ⟨h1, h2⟩; exact ⟨x.toNat, List.mem_range.2 (by omega), by omega⟩
def TaInv (s : SnM) (c : Nat) (k : Nat) (S : St) : Prop :=
  ∃ i : Nat, i ≤ 2048 ∧ k = 2048 - i ∧ S = ⟨[(1, .ptr 0 0 0), (2, .ptr 1 0 0), (4, .own 2), (6, sI i)], [(0, .box 30 (eSn s)), (1, .box 30 eZs), (2, .row 44 1 ((idxL (min i c)).map eZ))], 3⟩
def allM (s : SnM) : SnM := cutsM s (eldM s) (idxL s.cells.toNat)
theorem ok_trAll {s : SnM} (h : SnOk s) : Ok 10 [shSn s] (.tup [shSn (allM s), sI ((keptTo s 2048 : Int) - keptTo (allM s) 2048)]) := by
  have h1 := h.c1
  have h2 := h.c2
  obtain ⟨c, hc⟩ : ∃ c : Nat, s.cells = c := ⟨s.cells.toNat, by omega⟩
  have kc := ok_trCells h (l := idxL c) (fun x hx => by rw [inC_iff]; have := idxL_mem.1 hx; omega) (by rw [idxL_len]; omega)
  unfold allM
  have ec : s.cells.toNat = c := by omega
  rw [ec]
  have hrd := (cutsM_ok (eldM s) (idxL c) h (fun x hx => by rw [inC_iff]; have := idxL_mem.1 hx; omega)).1.rd
  obtain ⟨q, hq⟩ : ∃ q, q = cutsM s (eldM s) (idxL c) := ⟨_, rfl⟩
  rw [← hq] at kc hrd ⊢
  clear hq
  refine ok_of_tr Try.func10 tr_trAll rfl ?_
  have hL : (eRds s.rd).length = 16 := by rw [eRds_len, h.rd]
  have hO := eRds_one s.rd
  have hA := fun S => eRds_arg S s.rd
  have hT := eRds_take h.rd
  have hF := fun S => eRds_frz S s.rd
  have hL1 : (eRds q.rd).length = 16 := by rw [eRds_len, hrd]
  have hO1 := eRds_one q.rd
  have hA1 := fun S => eRds_arg S q.rd
  have hT1 := eRds_take hrd
  have hF1 := fun S => eRds_frz S q.rd
  unfold evFn sc_trAll rv_trAll
  have F1 := And.intro @hL (And.intro @hO (And.intro @hA (And.intro @hT (And.intro @hF (And.intro @hL1 (And.intro @hO1 (And.intro @hA1 (And.intro @hT1 @hF1))))))))
  refine eS fun K1 hn1 hr1 he1 => ?_
  refine eO fun K2 hk2 => ?_
  refine tL F1 ?_
  refine hk2 _ ?_
  refine hn1 (some ([1, 2], none)) _ ?_
  refine eS fun K3 hn3 hr3 he3 => ?_
  refine eO fun K4 hk4 => ?_
  refine tL F1 ?_
  refine hk4 _ ?_
  refine hn3 (some ([1, 2, 4], none)) _ ?_
  refine eS fun K5 hn5 hr5 he5 => ?_
  refine eS fun K6 hn6 hr6 he6 => ?_
  refine eO fun K7 hk7 => ?_
  refine tL F1 ?_
  refine hk7 _ ?_
  refine hn6 (some ([1, 2, 4, 6], none)) _ ?_
  refine eB fun K8 hn8 hx8 hr8 he8 => ?_
  refine eW (TaInv s c) (2048) (some ([1, 2, 4, 6], some ([0, 1, 2], 3))) ([.slot 4 (some 44) 1]) ?_ ?_
  · try refine lp0 ?_
    exact ⟨0, by omega, by omega, by rw [show min 0 c = 0 by omega]; simp only [eRds_refs, eRds_ren, if_true] <;> rfl⟩
  · intro k S1 hI
    obtain ⟨i, hi, rfl, rfl⟩ := hI
    intro K9 hn9 hr9 he9
    rcases (show i = 2048 ∨ (i < 2048 ∧ i < c) ∨ (i < 2048 ∧ c ≤ i) by omega) with rfl | ⟨hcc, hic⟩ | ⟨hcc, hic⟩
    · skip
      rw [show min 2048 c = c by omega]
      refine eS fun K10 hn10 hr10 he10 => ?_
      refine eO fun K11 hk11 => ?_
      refine tZ F1 ?_
      refine hk11 _ ?_
      refine hn10 (some ([1, 2, 4, 6, 7], none)) _ ?_
      refine eS fun K12 hn12 hr12 he12 => ?_
      refine eCf ?_
      refine he12 0 _ ?_
      refine he9 0 _ ?_
      refine hx8 _ ?_
      refine hn5 (some ([1, 2, 4], none)) _ ?_
      refine eS fun K13 hn13 hr13 he13 => ?_
      refine eO fun K14 hk14 => ?_
      refine tC 1 F1 ?_
      refine tS 1 F1 ?_
      refine tS 1 F1 ?_
      refine Or.inl (Or.inl ⟨_, kc, ?_⟩)
      refine tC 3 F1 ?_
      refine tL F1 ?_
      refine hk14 _ ?_
      refine hn13 (some ([2, 3], none)) _ ?_
      exact sf1 F1
    · skip
      have w2 : (i : Int) < 2048 := by omega
      have w3 : IntKind.i64.wrap ((i : Int) + 1) = ((i + 1 : Nat) : Int) := by rw [IntKind.wrap_i64]; omega
      have kl := ok_snList h (i : Int)
      have kn := ok_veLen (listM s (i : Int))
      have hne := List.length_pos_iff.2 (h.ne (i : Int) (inC_iff.2 (by omega)))
      have w4 : (0 : Int) < ((listM s (i : Int)).length : Int) := by omega
      rw [show min i c = i by omega]
      have b1 : (idxL i).length ≤ 2048 := by rw [idxL_len]; omega
      have F2 := And.intro F1 (And.intro @w2 (And.intro @w3 @w4))
      refine eS fun K15 hn15 hr15 he15 => ?_
      refine eO fun K16 hk16 => ?_
      refine tZ F2 ?_
      refine hk16 _ ?_
      refine hn15 (some ([1, 2, 4, 6, 7], none)) _ ?_
      refine eS fun K17 hn17 hr17 he17 => ?_
      refine eCt ?_
      refine hn17 (some ([1, 2, 4, 6], none)) _ ?_
      refine eS fun K18 hn18 hr18 he18 => ?_
      refine eB fun K19 hn19 hx19 hr19 he19 => ?_
      refine eS fun K20 hn20 hr20 he20 => ?_
      refine eO fun K21 hk21 => ?_
      refine tL F2 ?_
      refine hk21 _ ?_
      refine hn20 (some ([1, 2, 4, 5, 6], none)) _ ?_
      refine eS fun K22 hn22 hr22 he22 => ?_
      refine eO fun K23 hk23 => ?_
      refine tC 1 F2 ?_
      refine tS 1 F2 ?_
      refine tS 1 F2 ?_
      refine Or.inl (Or.inl ⟨_, kl, ?_⟩)
      refine tS 1 F2 ?_
      refine Or.inl (Or.inl ⟨_, kn, ?_⟩)
      refine tZ F2 ?_
      refine hk23 _ ?_
      refine hn22 (some ([1, 2, 4, 5, 6, 13], none)) _ ?_
      refine eCt ?_
      refine eO fun K24 hk24 => ?_
      refine tC 3 F2 ?_
      refine tC 1 F2 ?_
      refine tL F2 ?_
      refine hk24 _ ?_
      refine hn19 _ ?_
      refine hn18 (some ([1, 2, 4, 6], none)) _ ?_
      refine eO fun K25 hk25 => ?_
      refine tC 1 F2 ?_
      refine tL F2 ?_
      refine hk25 _ ?_
      refine hn9 (2048 - (i + 1)) (some ([1, 2, 4, 6], some ([0, 1, 3], 3))) _ ?_ ?_
      all_goals try refine lp0 ?_
      · omega
      · refine ⟨i + 1, by omega, rfl, ?_⟩
        rw [show min (i + 1) c = i + 1 by omega, idxL_succ, List.map_append]
        simp only [eRds_refs, eRds_ren, if_true] <;> rfl
    · skip
      have w2 : (i : Int) < 2048 := by omega
      have w3 : IntKind.i64.wrap ((i : Int) + 1) = ((i + 1 : Nat) : Int) := by rw [IntKind.wrap_i64]; omega
      have kl := ok_snList h (i : Int)
      have kn := ok_veLen (listM s (i : Int))
      have e0 : listM s (i : Int) = [] := by
        unfold listM
        rw [if_neg (by rw [inC_iff]; omega)]
      rw [e0] at kl kn
      have F3 := And.intro F1 (And.intro @w2 @w3)
      refine eS fun K26 hn26 hr26 he26 => ?_
      refine eO fun K27 hk27 => ?_
      refine tZ F3 ?_
      refine hk27 _ ?_
      refine hn26 (some ([1, 2, 4, 6, 7], none)) _ ?_
      refine eS fun K28 hn28 hr28 he28 => ?_
      refine eCt ?_
      refine hn28 (some ([1, 2, 4, 6], none)) _ ?_
      refine eS fun K29 hn29 hr29 he29 => ?_
      refine eB fun K30 hn30 hx30 hr30 he30 => ?_
      refine eS fun K31 hn31 hr31 he31 => ?_
      refine eO fun K32 hk32 => ?_
      refine tL F3 ?_
      refine hk32 _ ?_
      refine hn31 (some ([1, 2, 4, 5, 6], none)) _ ?_
      refine eS fun K33 hn33 hr33 he33 => ?_
      refine eO fun K34 hk34 => ?_
      refine tC 1 F3 ?_
      refine tS 1 F3 ?_
      refine tS 1 F3 ?_
      refine Or.inl (Or.inl ⟨_, kl, ?_⟩)
      refine tS 1 F3 ?_
      refine Or.inl (Or.inl ⟨_, kn, ?_⟩)
      refine tZ F3 ?_
      refine hk34 _ ?_
      refine hn33 (some ([1, 2, 4, 5, 6, 13], none)) _ ?_
      refine eCf ?_
      refine hn30 _ ?_
      refine hn29 (some ([1, 2, 4, 6], none)) _ ?_
      refine eO fun K35 hk35 => ?_
      refine tC 1 F3 ?_
      refine tL F3 ?_
      refine hk35 _ ?_
      refine hn9 (2048 - (i + 1)) (some ([1, 2, 4, 6], some ([0, 1, 2], 3))) _ ?_ ?_
      all_goals try refine lp0 ?_
      · omega
      · refine ⟨i + 1, by omega, rfl, ?_⟩
        rw [show min (i + 1) c = min i c by omega]
        simp only [eRds_refs, eRds_ren, if_true] <;> rfl

/-! ### New stores -/
def newM (n : Int) : SnM := ⟨n, 0, fun _ => none, fun _ => none, List.replicate 8 (false, 0)⟩
theorem ok_snNew {n : Int} (h1 : 1 ≤ n) (h2 : n ≤ 2048) : Ok 5 [sI n] (.tup [shSn (newM n), sI 0]) := by
  refine ok_of_tr Try.func5 tr_snNew rfl ?_
  have d1 : ¬ n < 1 := by omega
  have d2 : ¬ 2048 < n := by omega
  unfold evFn sc_snNew rv_snNew
  have F1 := And.intro @d1 @d2
  refine eS fun K1 hn1 hr1 he1 => ?_
  refine eO fun K2 hk2 => ?_
  refine tL F1 ?_
  refine hk2 _ ?_
  refine hn1 (some ([0, 2], none)) _ ?_
  refine eS fun K3 hn3 hr3 he3 => ?_
  refine eS fun K4 hn4 hr4 he4 => ?_
  refine eO fun K5 hk5 => ?_
  refine tC 2 F1 ?_
  refine tC 3 F1 ?_
  refine tL F1 ?_
  refine hk5 _ ?_
  refine hn4 (some ([0, 2, 9], none)) _ ?_
  refine eCf ?_
  refine hn3 (some ([0, 2], none)) _ ?_
  refine eS fun K6 hn6 hr6 he6 => ?_
  refine eO fun K7 hk7 => ?_
  refine tC 3 F1 ?_
  refine tL F1 ?_
  refine hk7 _ ?_
  refine hn6 (some ([2, 3], none)) _ ?_
  exact sf1 F1
end Go.Proofs.Ytijblpkdfmkcfaa
