/-
  TopSnapshot by shadows: trimming.
-/
import Derived.Test.YtijblpkdfmkcfaaKTk
namespace Go.Proofs.Ytijblpkdfmkcfaa
set_option linter.unusedSimpArgs false
set_option linter.unusedVariables false
open Go.RowKit Go.Maps

/-! ### Plain -/
theorem eRds_drop {l : List (Bool × Int)} (h : l.length = 8) : (eRds l).drop 16 = [] := List.drop_of_length_le (by rw [eRds_len]; omega)
def keptTo (s : SnM) : Nat → Nat
  | 0 => 0
  | n + 1 => keptTo s n + (listM s n).length
theorem keptTo_le {s : SnM} (h : SnOk s) : ∀ n, keptTo s n ≤ 1000 * n
  | 0 => Nat.le_refl _
  | n + 1 => by have := keptTo_le h n; have := h.len n; unfold keptTo; omega
theorem keptTo_cut {s : SnM} {x : Int} (hx : inC s x = true) (t : Int) : ∀ n : Nat, keptTo (cutM s x t) n + (if x < n then (listM s x).length else 0) = keptTo s n + (if x < n then (cutV (listM s x) t).length else 0)
  | 0 => by have := (inC_iff.1 hx).1; rw [if_neg (by omega), if_neg (by omega)]; rfl
  | n + 1 => by
    have ih := keptTo_cut hx t n
    have h0 := (inC_iff.1 hx).1
    unfold keptTo
    rw [listM_cut hx]
    by_cases e : (n : Int) = x
    · rw [if_pos e, if_pos (by omega), if_pos (by omega)]
      rw [if_neg (by omega), if_neg (by omega)] at ih
      rw [e]; omega
    · rw [if_neg e]
      by_cases q : x < n
      · rw [if_pos (by omega), if_pos (by omega)]
        rw [if_pos q, if_pos q] at ih
        omega
      · rw [if_neg (by omega), if_neg (by omega)]
        rw [if_neg q, if_neg q] at ih
        omega
def cutsM (s : SnM) (t : Int) (l : List Int) : SnM := l.foldl (fun s x => cutM s x t) s
theorem cutsM_snoc (s : SnM) (t : Int) (l : List Int) (x : Int) : cutsM s t (l ++ [x]) = cutM (cutsM s t l) x t := by unfold cutsM; rw [List.foldl_append]; rfl
theorem cutsM_ok (t : Int) : ∀ (l : List Int) {s : SnM}, SnOk s → (∀ x ∈ l, inC s x = true) → SnOk (cutsM s t l) ∧ (cutsM s t l).rd = s.rd ∧ (cutsM s t l).now = s.now ∧ (cutsM s t l).cells = s.cells
  | [], s, h, _ => ⟨h, rfl, rfl, rfl⟩
  | x :: l, s, h, hl => by
    have hx := hl x (by simp)
    exact cutsM_ok t l (h.cut hx t) (fun y hy => by rw [inC_cut]; exact hl y (by simp [hy]))
def eldM (s : SnM) : Int := minL (openS s.rd ++ [s.now])
theorem eldM_le (s : SnM) : eldM s ≤ s.now := minL_le (by simp)

/-! ### The code -/
def KeInv (s : SnM) (k : Nat) (S : St) : Prop :=
  ∃ i : Nat, i ≤ 2048 ∧ k = 2048 - i ∧ S = ⟨[(1, .ptr 0 0 0), (3, sI (keptTo s i)), (5, sI i)], [(0, .box 30 (eSn s))], 1⟩
theorem ok_trKept {s : SnM} (h : SnOk s) : Ok 9 [shSn s] (sI (keptTo s 2048)) := by
  refine ok_of_tr Try.func9 tr_trKept rfl ?_
  have hL : (eRds s.rd).length = 16 := by rw [eRds_len, h.rd]
  have hO := eRds_one s.rd
  have hA := fun S => eRds_arg S s.rd
  have hT := eRds_take h.rd
  have hF := fun S => eRds_frz S s.rd
  unfold evFn sc_trKept rv_trKept
  have F1 := And.intro @hL (And.intro @hO (And.intro @hA (And.intro @hT @hF)))
  refine eS fun K1 hn1 hr1 he1 => ?_
  refine eO fun K2 hk2 => ?_
  refine tL F1 ?_
  refine hk2 _ ?_
  refine hn1 (some ([1], none)) _ ?_
  refine eS fun K3 hn3 hr3 he3 => ?_
  refine eO fun K4 hk4 => ?_
  refine tL F1 ?_
  refine hk4 _ ?_
  refine hn3 (some ([1, 3], none)) _ ?_
  refine eS fun K5 hn5 hr5 he5 => ?_
  refine eS fun K6 hn6 hr6 he6 => ?_
  refine eO fun K7 hk7 => ?_
  refine tL F1 ?_
  refine hk7 _ ?_
  refine hn6 (some ([1, 3, 5], none)) _ ?_
  refine eB fun K8 hn8 hx8 hr8 he8 => ?_
  refine eW (KeInv s) (2048) (some ([1, 3, 5], some ([0], 1))) ([]) ?_ ?_
  · try refine lp0 ?_
    exact ⟨0, by omega, by omega, by simp only [eRds_refs, eRds_ren, if_true] <;> rfl⟩
  · intro k S1 hI
    obtain ⟨i, hi, rfl, rfl⟩ := hI
    intro K9 hn9 hr9 he9
    rcases (show i = 2048 ∨ i < 2048 by omega) with rfl | hcc
    · skip
      refine eS fun K10 hn10 hr10 he10 => ?_
      refine eO fun K11 hk11 => ?_
      refine tZ F1 ?_
      refine hk11 _ ?_
      refine hn10 (some ([1, 3, 5, 6], none)) _ ?_
      refine eS fun K12 hn12 hr12 he12 => ?_
      refine eCf ?_
      refine he12 0 _ ?_
      refine he9 0 _ ?_
      refine hx8 _ ?_
      refine hn5 (some ([3], none)) _ ?_
      refine eS fun K13 hn13 hr13 he13 => ?_
      refine eO fun K14 hk14 => ?_
      refine tL F1 ?_
      refine hk14 _ ?_
      refine hn13 (some ([2], none)) _ ?_
      exact sf1 F1
    · skip
      have w2 : (i : Int) < 2048 := by omega
      have w3 : IntKind.i64.wrap ((i : Int) + 1) = ((i + 1 : Nat) : Int) := by rw [IntKind.wrap_i64]; omega
      have kl := ok_snList h (i : Int)
      have kn := ok_veLen (listM s (i : Int))
      have b1 := keptTo_le h i
      have b2 := h.len i
      have w4 : IntKind.i64.wrap ((keptTo s i : Int) + ((listM s (i : Int)).length : Int)) = (keptTo s (i + 1) : Int) := by
        rw [IntKind.wrap_i64]
        show _ = ((keptTo s i + (listM s (i : Int)).length : Nat) : Int)
        omega
      have F2 := And.intro F1 (And.intro @w2 (And.intro @w3 @w4))
      refine eS fun K15 hn15 hr15 he15 => ?_
      refine eO fun K16 hk16 => ?_
      refine tZ F2 ?_
      refine hk16 _ ?_
      refine hn15 (some ([1, 3, 5, 6], none)) _ ?_
      refine eS fun K17 hn17 hr17 he17 => ?_
      refine eCt ?_
      refine hn17 (some ([1, 3, 5], none)) _ ?_
      refine eS fun K18 hn18 hr18 he18 => ?_
      refine eB fun K19 hn19 hx19 hr19 he19 => ?_
      refine eS fun K20 hn20 hr20 he20 => ?_
      refine eO fun K21 hk21 => ?_
      refine tL F2 ?_
      refine hk21 _ ?_
      refine hn20 (some ([1, 3, 4, 5], none)) _ ?_
      refine eO fun K22 hk22 => ?_
      refine tC 2 F2 ?_
      refine tS 1 F2 ?_
      refine tS 1 F2 ?_
      refine Or.inl (Or.inl ⟨_, kl, ?_⟩)
      refine tS 1 F2 ?_
      refine Or.inl (Or.inl ⟨_, kn, ?_⟩)
      refine tC 1 F2 ?_
      refine tL F2 ?_
      refine hk22 _ ?_
      refine hn19 _ ?_
      refine hn18 (some ([1, 3, 5], none)) _ ?_
      refine eO fun K23 hk23 => ?_
      refine tC 1 F2 ?_
      refine tL F2 ?_
      refine hk23 _ ?_
      refine hn9 (2048 - (i + 1)) (some ([1, 3, 5], some ([0], 1))) _ ?_ ?_
      all_goals try refine lp0 ?_
      · omega
      · exact ⟨i + 1, by omega, rfl, by simp only [eRds_refs, eRds_ren, if_true] <;> rfl⟩
theorem ok_trBound (c w : Nat) (hc : c ≤ 10000) (hw : w ≤ 1000000) : Ok 11 [sI c, sI w] (sI ((c + w : Nat) : Int)) := by
  refine ok_of_tr Try.func11 tr_trBound rfl ?_
  have w1 : IntKind.i64.wrap (max (c : Int) 0 + max (w : Int) 0) = ((c + w : Nat) : Int) := by rw [IntKind.wrap_i64]; omega
  unfold evFn sc_trBound rv_trBound
  have F1 := @w1
  refine eS fun K1 hn1 hr1 he1 => ?_
  refine eO fun K2 hk2 => ?_
  refine tL F1 ?_
  refine hk2 _ ?_
  refine hn1 (some ([0, 1], none)) _ ?_
  refine eS fun K3 hn3 hr3 he3 => ?_
  refine eO fun K4 hk4 => ?_
  refine tC 5 F1 ?_
  refine tL F1 ?_
  refine hk4 _ ?_
  refine hn3 (some ([4], none)) _ ?_
  exact sf1 F1
def TcInv (s : SnM) (l : List Int) (k : Nat) (S : St) : Prop :=
  ∃ i : Nat, i ≤ l.length ∧ k = l.length - i ∧ S = ⟨[(2, .ptr 0 0 0), (4, .ptr 1 0 0), (6, sI (eldM s)), (7, sI ((keptTo s 2048 : Int) - keptTo (cutsM s (eldM s) (l.take i)) 2048)), (16, .sl 1 0 (l.map eZ)), (17, sI l.length), (18, sI i)],
    [(0, .box 30 (eSn (cutsM s (eldM s) (l.take i)))), (1, .box 30 eZs)], 2⟩
theorem ok_trCells {s : SnM} (h : SnOk s) {l : List Int} (hl : ∀ x ∈ l, inC s x = true) (hn : l.length ≤ 2048) : Ok 21 [shSn s, .sl 1 0 (l.map eZ)] (.tup [shSn (cutsM s (eldM s) l), sI ((keptTo s 2048 : Int) - keptTo (cutsM s (eldM s) l) 2048)]) := by
  have h2 := h.c2
  refine ok_of_tr Try.func21 tr_trCells rfl ?_
  have hL : (eRds s.rd).length = 16 := by rw [eRds_len, h.rd]
  have hO := eRds_one s.rd
  have hA := fun S => eRds_arg S s.rd
  have hT := eRds_take h.rd
  have hF := fun S => eRds_frz S s.rd
  have k0 := ok_snNow s
  have k1 := ok_snReaders h
  have k2 := ok_trLeast s.now (openS s.rd) (by have := openS_len s.rd; rw [h.rd] at this; omega)
  have hle := eldM_le s
  have ex : ∀ i : Nat, i ≤ l.length → ∃ q, q = cutsM s (eldM s) (l.take i) ∧ SnOk q ∧ q.rd = s.rd ∧ q.now = s.now ∧ q.cells = s.cells := fun i _ => by
    obtain ⟨a, b, c, d⟩ := cutsM_ok (eldM s) (l.take i) h (fun x hx => hl x (List.mem_of_mem_take hx))
    exact ⟨_, rfl, a, b, c, d⟩
  unfold evFn sc_trCells rv_trCells
  have F1 := And.intro @hL (And.intro @hO (And.intro @hA (And.intro @hT @hF)))
  refine eS fun K1 hn1 hr1 he1 => ?_
  refine eO fun K2 hk2 => ?_
  refine tL F1 ?_
  refine hk2 _ ?_
  refine hn1 (some ([1, 2, 4], none)) _ ?_
  refine eS fun K3 hn3 hr3 he3 => ?_
  refine eD [] (n := 3) fun K4 hk4 => ?_
  refine sq0 ?_
  refine fC 1 F1 ?_
  refine fS 1 F1 ?_
  refine ⟨_, k0, ?_⟩
  refine fZ F1 ?_
  refine hk4 _ ?_
  refine sr0 ?_
  refine tS 1 F1 ?_
  refine Or.inl (Or.inl ⟨_, k1, ?_⟩)
  refine tS 1 F1 ?_
  refine Or.inl (Or.inl ⟨_, k2, ?_⟩)
  refine tL F1 ?_
  refine hn3 (some ([1, 2, 4, 6], none)) _ ?_
  refine eS fun K6 hn6 hr6 he6 => ?_
  refine eO fun K7 hk7 => ?_
  refine tL F1 ?_
  refine hk7 _ ?_
  refine hn6 (some ([1, 2, 4, 6, 7], none)) _ ?_
  refine eS fun K8 hn8 hr8 he8 => ?_
  refine eS fun K9 hn9 hr9 he9 => ?_
  refine eO fun K10 hk10 => ?_
  refine tL F1 ?_
  refine hk10 _ ?_
  refine hn9 (some ([2, 4, 6, 7, 16, 17, 18], none)) _ ?_
  refine eB fun K11 hn11 hx11 hr11 he11 => ?_
  refine eW (TcInv s l) (l.length) (some ([2, 4, 6, 7, 16, 17, 18], some ([0, 1], 2))) ([]) ?_ ?_
  · try refine lp0 ?_
    refine ⟨0, by omega, by omega, ?_⟩
    have e1 : (keptTo s 2048 : Int) - keptTo (cutsM s (eldM s) (l.take 0)) 2048 = 0 := by
      show (keptTo s 2048 : Int) - keptTo s 2048 = 0
      omega
    rw [e1]
    simp only [eRds_refs, eRds_ren, if_true] <;> rfl
  · intro k S1 hI
    obtain ⟨i, hi, rfl, rfl⟩ := hI
    obtain ⟨q, hq, hqo, hqr, hqn, hqc⟩ := ex i hi
    rw [← hq]
    have hL1 : (eRds q.rd).length = 16 := by rw [eRds_len, hqo.rd]
    have hO1 := eRds_one q.rd
    have hA1 := fun S => eRds_arg S q.rd
    have hT1 := eRds_take hqo.rd
    have hF1 := fun S => eRds_frz S q.rd
    have hcase : i = l.length ∨ ∃ x, l[i]? = some x ∧ l.take (i + 1) = l.take i ++ [x] := by
      rcases Nat.lt_or_ge i l.length with h | h
      · have hx1 := List.getElem?_eq_getElem h
        exact .inr ⟨_, hx1, by rw [List.take_add_one, hx1]; rfl⟩
      · exact .inl (by omega)
    intro K12 hn12 hr12 he12
    rcases hcase with hcc | ⟨x, hx1, htk⟩
    · skip
      have w2 : ¬ (i : Int) < (l.length : Int) := by omega
      have e1 : cutsM s (eldM s) l = q := by rw [hq, hcc, List.take_of_length_le (Nat.le_refl _)]
      have F2 := And.intro F1 (And.intro @w2 (And.intro @hL1 (And.intro @hO1 (And.intro @hA1 (And.intro @hT1 (And.intro @hF1 @e1))))))
      refine eS fun K13 hn13 hr13 he13 => ?_
      refine eO fun K14 hk14 => ?_
      refine tZ F2 ?_
      refine hk14 _ ?_
      refine hn13 (some ([2, 4, 6, 7, 16, 17, 18, 19], none)) _ ?_
      refine eS fun K15 hn15 hr15 he15 => ?_
      refine eCf ?_
      refine he15 0 _ ?_
      refine he12 0 _ ?_
      refine hx11 _ ?_
      refine hn8 (some ([2, 4, 7], none)) _ ?_
      refine eS fun K16 hn16 hr16 he16 => ?_
      refine eO fun K17 hk17 => ?_
      refine tC 1 F2 ?_
      refine tC 2 F2 ?_
      refine tL F2 ?_
      refine hk17 _ ?_
      refine hn16 (some ([4, 5], none)) _ ?_
      exact sf1 F2
    · skip
      have hlt := (List.getElem?_eq_some_iff.1 hx1).1
      have w2 : (i : Int) < (l.length : Int) := by omega
      have w3 : IntKind.i64.wrap ((i : Int) + 1) = ((i + 1 : Nat) : Int) := by rw [IntKind.wrap_i64]; omega
      have hin : inC q x = true := by
        have := hl x (List.mem_of_getElem? hx1)
        rw [inC_iff] at this ⊢
        rw [hqc]; exact this
      have hx2 := inC_iff.1 hin
      have hqc2 := hqo.c2
      obtain ⟨q', hq'⟩ : ∃ q', q' = cutM q x (eldM s) := ⟨_, rfl⟩
      have hqo' : SnOk q' := by rw [hq']; exact hqo.cut hin _
      have kl := ok_snList hqo x
      have kn := ok_veLen (listM q x)
      have kc := ok_snCut hqo hin (t := eldM s) (by omega)
      rw [← hq'] at kc
      have kl' := ok_snList hqo' x
      have kn' := ok_veLen (listM q' x)
      have hL2 : (eRds q'.rd).length = 16 := by rw [eRds_len, hqo'.rd]
      have hO2 := eRds_one q'.rd
      have hA2 := fun S => eRds_arg S q'.rd
      have hT2 := eRds_take hqo'.rd
      have hF2 := fun S => eRds_frz S q'.rd
      have hD1 := eRds_drop hqo.rd
      have hN2 := List.append_nil (eRds q'.rd)
      have hsn : cutsM s (eldM s) (l.take (i + 1)) = q' := by rw [htk, cutsM_snoc, ← hq, hq']
      have b1 := keptTo_le hqo 2048
      have b2 := keptTo_le hqo' 2048
      have b3 := keptTo_le h 2048
      have b4 := hqo.len x
      have b5 := hqo'.len x
      have hk := keptTo_cut hin (eldM s) 2048
      rw [if_pos (by omega), if_pos (by omega), ← hq'] at hk
      have hk2 : (listM q' x).length = (cutV (listM q x) (eldM s)).length := by rw [hq', listM_cut hin, if_pos rfl]
      have w4 : IntKind.i64.wrap (((listM q x).length : Int) - ((listM q' x).length : Int)) = ((listM q x).length : Int) - ((listM q' x).length : Int) := by rw [IntKind.wrap_i64]; omega
      have w5 : IntKind.i64.wrap ((keptTo s 2048 : Int) - (keptTo q 2048 : Int) + (((listM q x).length : Int) - ((listM q' x).length : Int))) = (keptTo s 2048 : Int) - (keptTo q' 2048 : Int) := by rw [IntKind.wrap_i64]; omega
      have F3 := And.intro F1 (And.intro @w2 (And.intro @w3 (And.intro @hx1 (And.intro @w4 (And.intro @w5 (And.intro @hL1 (And.intro @hO1 (And.intro @hA1 (And.intro @hT1 (And.intro @hF1 (And.intro @hL2 (And.intro @hO2 (And.intro @hA2 (And.intro @hT2 (And.intro @hF2 (And.intro @hD1 @hN2))))))))))))))))
      refine eS fun K18 hn18 hr18 he18 => ?_
      refine eO fun K19 hk19 => ?_
      refine tZ F3 ?_
      refine hk19 _ ?_
      refine hn18 (some ([2, 4, 6, 7, 16, 17, 18, 19], none)) _ ?_
      refine eS fun K20 hn20 hr20 he20 => ?_
      refine eCt ?_
      refine hn20 (some ([2, 4, 6, 7, 16, 17, 18], none)) _ ?_
      refine eS fun K21 hn21 hr21 he21 => ?_
      refine eB fun K22 hn22 hx22 hr22 he22 => ?_
      refine eS fun K23 hn23 hr23 he23 => ?_
      refine eO fun K24 hk24 => ?_
      refine tC 1 F3 ?_
      refine tC 1 F3 ?_
      refine tL F3 ?_
      refine hk24 _ ?_
      refine hn23 (some ([2, 4, 6, 7, 9, 16, 17, 18], none)) _ ?_
      refine eS fun K25 hn25 hr25 he25 => ?_
      refine eO fun K26 hk26 => ?_
      refine tC 1 F3 ?_
      refine tS 1 F3 ?_
      refine tS 1 F3 ?_
      refine Or.inl (Or.inl ⟨_, kl, ?_⟩)
      refine tS 1 F3 ?_
      refine Or.inl (Or.inl ⟨_, kn, ?_⟩)
      refine tL F3 ?_
      refine hk26 _ ?_
      refine hn25 (some ([2, 4, 6, 7, 9, 10, 16, 17, 18], none)) _ ?_
      refine eS fun K27 hn27 hr27 he27 => ?_
      refine eO fun K28 hk28 => ?_
      refine tC 1 F3 ?_
      refine tS 2 F3 ?_
      refine tS 1 F3 ?_
      refine Or.inl (Or.inl ⟨_, kc, ?_⟩)
      refine tZ F3 ?_
      refine hk28 _ ?_
      refine hn27 (some ([2, 4, 6, 7, 9, 10, 16, 17, 18], none)) _ ?_
      refine eO fun K29 hk29 => ?_
      refine tC 3 F3 ?_
      refine tS 1 F3 ?_
      refine tS 1 F3 ?_
      refine Or.inl (Or.inl ⟨_, kl', ?_⟩)
      refine tS 1 F3 ?_
      refine Or.inl (Or.inl ⟨_, kn', ?_⟩)
      refine tC 1 F3 ?_
      refine tC 1 F3 ?_
      refine tL F3 ?_
      refine hk29 _ ?_
      refine hn22 _ ?_
      refine hn21 (some ([2, 4, 6, 7, 16, 17, 18], none)) _ ?_
      refine eO fun K30 hk30 => ?_
      refine tC 1 F3 ?_
      refine tL F3 ?_
      refine hk30 _ ?_
      refine hn12 (l.length - (i + 1)) (some ([2, 4, 6, 7, 16, 17, 18], some ([0, 1], 2))) _ ?_ ?_
      all_goals try refine lp0 ?_
      · omega
      · refine ⟨i + 1, by omega, rfl, ?_⟩
        rw [hsn]
        simp only [eRds_refs, eRds_ren, if_true] <;> rfl
end Go.Proofs.Ytijblpkdfmkcfaa
