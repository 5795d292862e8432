/-
  TopSnapshot by shadows: the store with replaced lists.
-/
import Derived.Test.YtijblpkdfmkcfaaKTf
namespace Go.Proofs.Ytijblpkdfmkcfaa
set_option linter.unusedSimpArgs false
set_option linter.unusedVariables false
open Go.RowKit Go.Maps

/-- f's entries that are not left to come, over g's. -/
def joinB {α : Type} (f g : Int → Option α) (left : Int → Bool) (k : Int) : Option α := if (f k).isSome && !left k then f k else g k
theorem joinB_step {α : Type} (e : α → Sh) {f g : Int → Option α} {left : Int → Bool} {jj : Int} {v : α} (h2 : f jj = some v) :
    (fun j => if j = jj then some (e v) else (joinB f g left j).map e) = fun j => (joinB f g (fun z => left z && z != jj) j).map e := by
  funext j
  unfold joinB
  by_cases hj : j = jj
  · subst hj; simp [h2]
  · have : (left j && j != jj) = left j := by simp [hj]
    rw [if_neg hj]
    simp only [this]
theorem joinB_all {α : Type} (f g : Int → Option α) : joinB f g (fun z => (f z).isSome) = g := by
  funext j; unfold joinB; dsimp only; rw [Bool.and_not_self]; rfl
theorem joinB_none {α : Type} {f g : Int → Option α} {left : Int → Bool} (h : ∀ z, left z = false) : joinB f g left = fun k => if (f k).isSome then f k else g k := by
  funext j; unfold joinB; rw [h j]; simp
theorem joinB_dom {α : Type} {f g : Int → Option α} {left : Int → Bool} {P : Int → Prop} (hf : ∀ k, f k ≠ none → P k) (hg : ∀ k, g k ≠ none → P k) {k : Int} (h : joinB f g left k ≠ none) : P k := by
  unfold joinB at h
  split at h
  · exact hf k h
  · exact hg k h
theorem isSome_map {α : Type} (e : α → Sh) (f : Int → Option α) : (fun i => ((f i).map e).isSome) = fun i => (f i).isSome := by funext i; cases f i <;> rfl
abbrev mWo (W : Int → Option Bool) : Int → Option Sh := fun k => (W k).map sB
theorem lk_bool (f : Int → Option Bool) (k : Int) : (mWo f k).getD (sB false) = sB ((f k).getD false) := by cases h : f k <;> simp [h]
theorem lk_wr (f : Int → Option Int) (k : Int) : (mWrites f k).getD (sU 0) = sU ((f k).getD 0) := by cases h : f k <;> simp [h]
def incW (w : Int → Option Int) (k : Int) : Int := IntKind.u32.wrap ((w k).getD 0 + 1)
/-- The counts when the lists of L that are not left to come are counted. -/
def wroB {α : Type} (L : Int → Option α) (W : Int → Option Bool) (w : Int → Option Int) (left : Int → Bool) (k : Int) : Option Int :=
  if (L k).isSome && !left k && (W k).getD false then some (incW w k) else w k
def withM (s : SnM) (L : Int → Option (List (Int × Int))) (W : Int → Option Bool) : SnM :=
  { s with lists := fun k => if (L k).isSome then L k else s.lists k, writes := wroB L W s.writes fun _ => false }
theorem wroB_all {α : Type} (L : Int → Option α) (W : Int → Option Bool) (w : Int → Option Int) : wroB L W w (fun z => (L z).isSome) = w := by
  funext j; unfold wroB; dsimp only; rw [Bool.and_not_self, Bool.false_and]; rfl
theorem wroB_none {α : Type} {L : Int → Option α} {W : Int → Option Bool} {w : Int → Option Int} {left : Int → Bool} (h : ∀ z, left z = false) : wroB L W w left = wroB L W w fun _ => false := by
  funext j; unfold wroB; rw [h j]
theorem wroB_t {α : Type} {L : Int → Option α} {W : Int → Option Bool} {w : Int → Option Int} {left : Int → Bool} {jj : Int} {v : α} (h2 : L jj = some v) (hW : (W jj).getD false = true) :
    (fun j => if j = jj then some (sU (incW w jj)) else (wroB L W w left j).map sU) = fun j => (wroB L W w (fun z => left z && z != jj) j).map sU := by
  funext j
  unfold wroB
  by_cases hj : j = jj
  · subst hj; simp [h2, hW]
  · have : (left j && j != jj) = left j := by simp [hj]
    rw [if_neg hj]
    simp only [this]
theorem wroB_f {α : Type} {L : Int → Option α} {W : Int → Option Bool} {w : Int → Option Int} {left : Int → Bool} {jj : Int} (hW : (W jj).getD false = false) :
    mWrites (wroB L W w left) = mWrites (wroB L W w fun z => left z && z != jj) := by
  funext j
  show (wroB L W w left j).map sU = (wroB L W w (fun z => left z && z != jj) j).map sU
  unfold wroB
  by_cases hj : j = jj
  · subst hj; simp [hW]
  · have : (left j && j != jj) = left j := by simp [hj]
    simp only [this]
theorem wroB_at {α : Type} {L : Int → Option α} {W : Int → Option Bool} {w : Int → Option Int} {left : Int → Bool} {jj : Int} (h1 : left jj = true) : wroB L W w left jj = w jj := by unfold wroB; rw [h1]; simp
theorem wroB_dom {α : Type} {L : Int → Option α} {W : Int → Option Bool} {w : Int → Option Int} {left : Int → Bool} {P : Int → Prop} (hf : ∀ k, L k ≠ none → P k) (hg : ∀ k, w k ≠ none → P k) {k : Int} (h : wroB L W w left k ≠ none) : P k := by
  unfold wroB at h
  split at h
  · rename_i e
    refine hf k fun e2 => ?_
    rw [e2] at e; simp at e
  · exact hg k h
theorem bd_of {α : Type} (e : α → Sh) {f : Int → Option α} {n : Int} (hn : 0 ≤ n ∧ n < 2048) (hf : ∀ k, f k ≠ none → 0 ≤ k ∧ k < 2048) (v : Sh) (q : Int) (h : (if q = n then some v else (f q).map e) ≠ none) : 0 ≤ q ∧ q < ((2048 : Nat) : Int) := by
  by_cases hq : q = n
  · subst hq; omega
  · rw [if_neg hq] at h
    have := hf q (fun e => h (by rw [e]; rfl))
    omega
def W0Inv (s : SnM) (L : Int → Option (List (Int × Int))) (W : Int → Option Bool) (k : Nat) (S : St) : Prop :=
  ∃ left cur N, N ≤ 2048 ∧ S = ⟨[(1, .mp 44 (mLists L)), (2, .mp 44 (mWo W)), (3, .ptr 0 0 0), (6, .ptr 1 0 0), (7, .own 2), (8, .own 3), (19, .own 4)], [(0, .box 30 (eSn s)), (1, .box 30 eZs), (2, .map 44 N (mLists (joinB s.lists (fun _ => none) left))), (3, .map 44 0 fun _ => none), (4, .iter (mLists s.lists) left k cur)], 5⟩
def W1Inv (s : SnM) (L : Int → Option (List (Int × Int))) (W : Int → Option Bool) (k : Nat) (S : St) : Prop :=
  ∃ left cur N N0, N ≤ 2048 ∧ N0 ≤ 2048 ∧ S = ⟨[(1, .mp 44 (mLists L)), (2, .mp 44 (mWo W)), (3, .ptr 0 0 0), (6, .ptr 1 0 0), (7, .own 2), (8, .own 3), (30, .own 4)], [(0, .box 30 (eSn s)), (1, .box 30 eZs), (2, .map 44 N0 (mLists s.lists)), (3, .map 44 N (mWrites (joinB s.writes (fun _ => none) left))), (4, .iter (mWrites s.writes) left k cur)], 5⟩
def W2Inv (s : SnM) (L : Int → Option (List (Int × Int))) (W : Int → Option Bool) (k : Nat) (S : St) : Prop :=
  ∃ left cur N N0, N ≤ 2048 ∧ N0 ≤ 2048 ∧ S = ⟨[(2, .mp 44 (mWo W)), (3, .ptr 0 0 0), (6, .ptr 1 0 0), (7, .own 2), (8, .own 3), (40, .own 4)], [(0, .box 30 (eSn s)), (1, .box 30 eZs), (2, .map 44 N0 (mLists (joinB L s.lists left))), (3, .map 44 N (mWrites (wroB L W s.writes left))), (4, .iter (mLists L) left k cur)], 5⟩
theorem ok_snWith {s : SnM} (h : SnOk s) {L : Int → Option (List (Int × Int))} {W : Int → Option Bool} (hL0 : ∀ k, L k ≠ none → inC s k = true) : Ok 19 [shSn s, .mp 44 (mLists L), .mp 44 (mWo W)] (shSn (withM s L W)) := by
  have h2 := h.c2
  have dL : ∀ k, L k ≠ none → 0 ≤ k ∧ k < 2048 := fun k hk => by have := inC_iff.1 (hL0 k hk); omega
  have dS : ∀ k, s.lists k ≠ none → 0 ≤ k ∧ k < 2048 := fun k hk => by have := inC_iff.1 (h.dom k hk); omega
  have dW : ∀ k, s.writes k ≠ none → 0 ≤ k ∧ k < 2048 := fun k hk => by have := inC_iff.1 (h.domw k hk); omega
  refine ok_of_tr Try.func19 tr_snWith rfl ?_
  have hL : (eRds s.rd).length = 16 := by rw [eRds_len, h.rd]
  have hO := eRds_one s.rd
  have hA := fun S => eRds_arg S s.rd
  have hT := eRds_take h.rd
  have hF := fun S => eRds_frz S s.rd
  unfold evFn sc_snWith rv_snWith
  have F1 := And.intro @hL (And.intro @hO (And.intro @hA (And.intro @hT @hF)))
  refine eS fun K1 hn1 hr1 he1 => ?_
  refine eO fun K2 hk2 => ?_
  refine tL F1 ?_
  refine hk2 _ ?_
  refine hn1 (some ([1, 2, 3, 6], none)) _ ?_
  refine eS fun K3 hn3 hr3 he3 => ?_
  refine eO fun K4 hk4 => ?_
  refine tL F1 ?_
  refine hk4 _ ?_
  refine hn3 (some ([1, 2, 3, 6, 7, 8], none)) _ ?_
  refine eS fun K5 hn5 hr5 he5 => ?_
  refine eS fun K6 hn6 hr6 he6 => ?_
  refine eO fun K7 hk7 => ?_
  refine tC 2 F1 ?_
  refine tL F1 ?_
  first | refine Or.inl ⟨rfl, fun cnt0 => ?_⟩ | (refine Or.inl ?_; intro cnt0)
  refine hk7 _ ?_
  refine hn6 (some ([1, 2, 3, 6, 7, 8, 19], none)) _ ?_
  refine eB fun K8 hn8 hx8 hr8 he8 => ?_
  refine eW (W0Inv s L W) (cnt0) (some ([1, 2, 3, 6, 7, 8, 19], some ([0, 1, 2, 3, 4], 5))) ([]) ?_ ?_
  · try refine lp0 ?_
    refine ⟨fun i => (s.lists i).isSome, none, 0, by omega, ?_⟩
    simp only [eRds_refs, eRds_ren, if_true, joinB_all, isSome_map] <;> rfl
  · intro k S1 hI
    obtain ⟨left, cur, N, hN, rfl⟩ := hI
    intro K9 hn9 hr9 he9
    refine eS fun K10 hn10 hr10 he10 => ?_
    refine eO fun K11 hk11 => ?_
    refine tS 1 F1 ?_
    refine ⟨fun hno => ?_, fun jj sj cj hj1 hj2 hj3 hj4 hj5 => ?_⟩
    · skip
      have e1 := joinB_none (f := s.lists) (g := fun _ => none) hno
      refine tL F1 ?_
      refine hk11 _ ?_
      refine hn10 (some ([1, 2, 3, 6, 7, 8, 19, 21], none)) _ ?_
      refine eS fun K12 hn12 hr12 he12 => ?_
      refine eC rfl (fun hx => absurd hx (by cases hx)) (fun hc0 => ?_)
      clear hc0
      refine he12 0 _ ?_
      refine he9 0 _ ?_
      refine hx8 _ ?_
      refine hn5 (some ([1, 2, 3, 6, 7, 8], none)) _ ?_
      refine eS fun K13 hn13 hr13 he13 => ?_
      refine eS fun K14 hn14 hr14 he14 => ?_
      refine eO fun K15 hk15 => ?_
      refine tC 2 F1 ?_
      refine tL F1 ?_
      first | refine Or.inl ⟨rfl, fun cnt1 => ?_⟩ | (refine Or.inl ?_; intro cnt1)
      refine hk15 _ ?_
      refine hn14 (some ([1, 2, 3, 6, 7, 8, 30], none)) _ ?_
      refine eB fun K16 hn16 hx16 hr16 he16 => ?_
      refine eW (W1Inv s L W) (cnt1) (some ([1, 2, 3, 6, 7, 8, 30], some ([0, 1, 2, 3, 5], 5))) ([]) ?_ ?_
      · try refine lp0 ?_
        have e1 := joinB_none (f := s.lists) (g := fun _ => none) hno
        have e2 : (fun k => if (s.lists k).isSome then s.lists k else none) = s.lists := by funext k; cases s.lists k <;> rfl
        refine ⟨fun i => (s.writes i).isSome, none, 0, N, by omega, by omega, ?_⟩
        simp only [eRds_refs, eRds_ren, if_true, joinB_all, isSome_map, e1, e2] <;> rfl
      · intro k S1 hI
        obtain ⟨left, cur, N, N0, hN, hN0, rfl⟩ := hI
        intro K17 hn17 hr17 he17
        refine eS fun K18 hn18 hr18 he18 => ?_
        refine eO fun K19 hk19 => ?_
        refine tS 1 F1 ?_
        refine ⟨fun hno1 => ?_, fun jj sj cj hj1 hj2 hj3 hj4 hj5 => ?_⟩
        · skip
          refine tL F1 ?_
          refine hk19 _ ?_
          refine hn18 (some ([1, 2, 3, 6, 7, 8, 30, 32], none)) _ ?_
          refine eS fun K20 hn20 hr20 he20 => ?_
          refine eC rfl (fun hx => absurd hx (by cases hx)) (fun hc1 => ?_)
          clear hc1
          refine he20 2 _ ?_
          refine he17 2 _ ?_
          refine hx16 _ ?_
          refine hn13 (some ([1, 2, 3, 6, 7, 8], none)) _ ?_
          refine eS fun K21 hn21 hr21 he21 => ?_
          refine eS fun K22 hn22 hr22 he22 => ?_
          refine eO fun K23 hk23 => ?_
          refine tS 1 F1 ?_
          refine tL F1 ?_
          first | refine Or.inl ⟨rfl, fun cnt2 => ?_⟩ | (refine Or.inl ?_; intro cnt2)
          refine hk23 _ ?_
          refine hn22 (some ([2, 3, 6, 7, 8, 40], none)) _ ?_
          refine eB fun K24 hn24 hx24 hr24 he24 => ?_
          refine eW (W2Inv s L W) (cnt2) (some ([2, 3, 6, 7, 8, 40], some ([0, 1, 2, 3, 5], 5))) ([]) ?_ ?_
          · try refine lp0 ?_
            have e1 := joinB_none (f := s.writes) (g := fun _ => none) hno1
            have e2 : (fun k => if (s.writes k).isSome then s.writes k else none) = s.writes := by funext k; cases s.writes k <;> rfl
            refine ⟨fun i => (L i).isSome, none, N, N0, by omega, by omega, ?_⟩
            simp only [eRds_refs, eRds_ren, if_true, joinB_all, wroB_all, isSome_map, e1, e2] <;> rfl
          · intro k S1 hI
            obtain ⟨left, cur, N, N0, hN, hN0, rfl⟩ := hI
            intro K25 hn25 hr25 he25
            refine eS fun K26 hn26 hr26 he26 => ?_
            refine eO fun K27 hk27 => ?_
            refine tS 1 F1 ?_
            refine ⟨fun hno2 => ?_, fun jj sj cj hj1 hj2 hj3 hj4 hj5 => ?_⟩
            · skip
              have e1 := joinB_none (f := L) (g := s.lists) hno2
              have e2 := wroB_none (L := L) (W := W) (w := s.writes) hno2
              have F2 := And.intro F1 (And.intro @e1 @e2)
              refine tL F2 ?_
              refine hk27 _ ?_
              refine hn26 (some ([2, 3, 6, 7, 8, 40, 42], none)) _ ?_
              refine eS fun K28 hn28 hr28 he28 => ?_
              refine eC rfl (fun hx => absurd hx (by cases hx)) (fun hc2 => ?_)
              clear hc2
              refine he28 4 _ ?_
              refine he25 4 _ ?_
              refine hx24 _ ?_
              refine hn21 (some ([3, 6, 7, 8], none)) _ ?_
              refine eS fun K29 hn29 hr29 he29 => ?_
              refine eO fun K30 hk30 => ?_
              refine tC 4 F2 ?_
              refine tZ F2 ?_
              refine hk30 _ ?_
              refine hn29 (some ([3, 6], none)) _ ?_
              refine eS fun K31 hn31 hr31 he31 => ?_
              refine eO fun K32 hk32 => ?_
              refine tC 1 F2 ?_
              refine tZ F2 ?_
              refine hk32 _ ?_
              refine hn31 (some ([6], none)) _ ?_
              exact sf1 F2
            · skip
              obtain ⟨l, hl, rfl⟩ := Option.map_eq_some_iff.1 hj2
              have hb := bd_of shVl (dL jj (by rw [hl]; simp)) (fun k hk => joinB_dom (left := left) dL dS hk)
              have hb2 := bd_of sU (dL jj (by rw [hl]; simp)) (fun k hk => wroB_dom (W := W) (left := left) dL dW hk)
              have hat := wroB_at (L := L) (W := W) (w := s.writes) hj1
              have lkb := lk_bool W jj
              have lkw := lk_wr (wroB L W s.writes left) jj
              rw [hat] at lkw
              have F3 := And.intro F1 (And.intro @lkb @lkw)
              refine tL F3 ?_
              refine hk27 _ ?_
              refine hn26 (some ([2, 3, 6, 7, 8, 40, 42], none)) _ ?_
              refine eS fun K33 hn33 hr33 he33 => ?_
              refine eC rfl (fun hc2 => ?_) (fun hx => absurd hx (by cases hx))
              clear hc2
              refine hn33 (some ([2, 3, 6, 7, 8, 40], none)) _ ?_
              refine eB fun K34 hn34 hx34 hr34 he34 => ?_
              refine eS fun K35 hn35 hr35 he35 => ?_
              refine eO fun K36 hk36 => ?_
              refine tZ F3 ?_
              refine hk36 _ ?_
              refine hn35 (some ([2, 3, 6, 7, 8, 13, 14, 40], none)) _ ?_
              refine eS fun K37 hn37 hr37 he37 => ?_
              refine eO fun K38 hk38 => ?_
              refine tC 3 F3 ?_
              refine tZ F3 ?_
              refine Or.inr ⟨2048, ⟨by decide, hb _⟩, ?_⟩
              refine hk38 _ ?_
              refine hn37 (some ([2, 3, 6, 7, 8, 13, 40], none)) _ ?_
              refine eS fun K39 hn39 hr39 he39 => ?_
              refine eO fun K40 hk40 => ?_
              refine tZ F3 ?_
              refine hk40 _ ?_
              refine hn39 (some ([2, 3, 6, 7, 8, 13, 40, 51], none)) _ ?_
              refine eC rfl (fun hc3 => ?_) (fun hc3 => ?_)
              · try replace hc3 := hcS hc3
                refine eO fun K41 hk41 => ?_
                refine tC 3 F3 ?_
                refine tC 1 F3 ?_
                refine tZ F3 ?_
                refine Or.inr ⟨2048, ⟨by decide, hb2 _⟩, ?_⟩
                refine hk41 _ ?_
                refine hn34 _ ?_
                refine hn25 (cj) (some ([2, 3, 6, 7, 8, 40], some ([0, 1, 2, 3, 4], 5))) _ ?_ ?_
                all_goals try refine lp0 ?_
                · exact hj5
                · refine ⟨fun z => left z && z != jj, some (jj, shVl l), 2048, 2048, by omega, by omega, ?_⟩
                  have e := joinB_step shVl (g := s.lists) (left := left) hl
                  have e' := wroB_t (W := W) (w := s.writes) (left := left) hl (by assumption)
                  simp only [eRds_refs, eRds_ren, if_true]
                  unfold incW at e'
                  rw [e, e']
              · try replace hc3 := hcS hc3
                refine hn34 _ ?_
                refine hn25 (cj) (some ([2, 3, 6, 7, 8, 40], some ([0, 1, 2, 3, 4], 5))) _ ?_ ?_
                all_goals try refine lp0 ?_
                · exact hj5
                · refine ⟨fun z => left z && z != jj, some (jj, shVl l), N, 2048, by omega, by omega, ?_⟩
                  have e := joinB_step shVl (g := s.lists) (left := left) hl
                  have e' := wroB_f (L := L) (W := W) (w := s.writes) (left := left) (by assumption)
                  simp only [eRds_refs, eRds_ren, if_true]
                  rw [e, e']
        · skip
          obtain ⟨l, hl, rfl⟩ := Option.map_eq_some_iff.1 hj2
          have hb := bd_of sU (dW jj (by rw [hl]; simp)) (fun k hk => joinB_dom (left := left) dW (fun _ h => absurd rfl h) hk)
          refine tL F1 ?_
          refine hk19 _ ?_
          refine hn18 (some ([1, 2, 3, 6, 7, 8, 30, 32], none)) _ ?_
          refine eS fun K42 hn42 hr42 he42 => ?_
          refine eC rfl (fun hc1 => ?_) (fun hx => absurd hx (by cases hx))
          clear hc1
          refine hn42 (some ([1, 2, 3, 6, 7, 8, 30], none)) _ ?_
          refine eB fun K43 hn43 hx43 hr43 he43 => ?_
          refine eS fun K44 hn44 hr44 he44 => ?_
          refine eO fun K45 hk45 => ?_
          refine tL F1 ?_
          refine hk45 _ ?_
          refine hn44 (some ([1, 2, 3, 6, 7, 8, 11, 12, 30], none)) _ ?_
          refine eO fun K46 hk46 => ?_
          refine tZ F1 ?_
          refine Or.inr ⟨2048, ⟨by decide, hb _⟩, ?_⟩
          refine hk46 _ ?_
          refine hn43 _ ?_
          refine hn17 (cj) (some ([1, 2, 3, 6, 7, 8, 30], some ([0, 1, 2, 3, 4], 5))) _ ?_ ?_
          all_goals try refine lp0 ?_
          · exact hj5
          · refine ⟨fun z => left z && z != jj, some (jj, sU l), 2048, N0, by omega, hN0, ?_⟩
            have e := joinB_step sU (g := fun _ => none) (left := left) hl
            simp only [eRds_refs, eRds_ren, if_true]
            rw [e]
    · skip
      obtain ⟨l, hl, rfl⟩ := Option.map_eq_some_iff.1 hj2
      have hb := bd_of shVl (dS jj (by rw [hl]; simp)) (fun k hk => joinB_dom (left := left) dS (fun _ h => absurd rfl h) hk)
      refine tL F1 ?_
      refine hk11 _ ?_
      refine hn10 (some ([1, 2, 3, 6, 7, 8, 19, 21], none)) _ ?_
      refine eS fun K47 hn47 hr47 he47 => ?_
      refine eC rfl (fun hc0 => ?_) (fun hx => absurd hx (by cases hx))
      clear hc0
      refine hn47 (some ([1, 2, 3, 6, 7, 8, 19], none)) _ ?_
      refine eB fun K48 hn48 hx48 hr48 he48 => ?_
      refine eS fun K49 hn49 hr49 he49 => ?_
      refine eO fun K50 hk50 => ?_
      refine tZ F1 ?_
      refine hk50 _ ?_
      refine hn49 (some ([1, 2, 3, 6, 7, 8, 9, 10, 19], none)) _ ?_
      refine eO fun K51 hk51 => ?_
      refine tC 3 F1 ?_
      refine tZ F1 ?_
      refine Or.inr ⟨2048, ⟨by decide, hb _⟩, ?_⟩
      refine hk51 _ ?_
      refine hn48 _ ?_
      refine hn9 (cj) (some ([1, 2, 3, 6, 7, 8, 19], some ([0, 1, 2, 3, 4], 5))) _ ?_ ?_
      all_goals try refine lp0 ?_
      · exact hj5
      · refine ⟨fun z => left z && z != jj, some (jj, shVl l), 2048, by omega, ?_⟩
        have e := joinB_step shVl (g := fun _ => none) (left := left) hl
        simp only [eRds_refs, eRds_ren, if_true]
        rw [e]
end Go.Proofs.Ytijblpkdfmkcfaa
