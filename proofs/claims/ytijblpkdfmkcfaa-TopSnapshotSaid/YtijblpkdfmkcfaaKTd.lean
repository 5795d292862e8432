/-
  TopSnapshot by shadows: the store, reading, continued.
-/
import Derived.Test.YtijblpkdfmkcfaaKTc
namespace Go.Proofs.Ytijblpkdfmkcfaa
set_option linter.unusedSimpArgs false
set_option linter.unusedVariables false
open Go.RowKit Go.Maps

def listM (s : SnM) (x : Int) : List (Int × Int) := if inC s x = true then (s.lists x).getD [(0, 0)] else []
/-- What every store keeps. -/
structure SnOk (s : SnM) : Prop where
  rd : s.rd.length = 8
  c1 : 0 < s.cells
  c2 : s.cells ≤ 2048
  sort : ∀ x, VSort (listM s x)
  ne : ∀ x, inC s x = true → listM s x ≠ []
  len : ∀ x, (listM s x).length ≤ 1000
  last : ∀ x p, p ∈ listM s x → 0 ≤ p.1 ∧ p.1 ≤ s.now
  now : 0 ≤ s.now ∧ s.now ≤ 1000
  dom : ∀ x, s.lists x ≠ none → inC s x = true
  domw : ∀ x, s.writes x ≠ none → inC s x = true
theorem inC_iff {s : SnM} {x : Int} : inC s x = true ↔ 0 ≤ x ∧ x < s.cells := by unfold inC; simp
theorem ok_snList {s : SnM} (h : SnOk s) (x : Int) : Ok 17 [shSn s, sI x] (shVl (listM s x)) := by
  refine ok_of_tr Try.func17 tr_snList rfl ?_
  have hL : (eRds s.rd).length = 16 := by rw [eRds_len, h.rd]
  have hO := eRds_one s.rd
  have hA := fun S => eRds_arg S s.rd
  have hT := eRds_take h.rd
  have hF := fun S => eRds_frz S s.rd
  have k0 := ok_snCell s x h.rd
  have h1 := h.c2
  unfold listM
  cases hc : inC s x with
  | false =>
    rw [hc] at k0
    rw [if_neg (by decide)]
    unfold evFn sc_snList rv_snList
    have F1 := And.intro @hO (And.intro @hA (And.intro @hT @hF))
    refine eS fun K1 hn1 hr1 he1 => ?_
    refine eO fun K2 hk2 => ?_
    refine tL F1 ?_
    refine hk2 _ ?_
    refine hn1 (some ([1, 2, 4], none)) _ ?_
    refine eS fun K3 hn3 hr3 he3 => ?_
    refine eS fun K4 hn4 hr4 he4 => ?_
    refine eO fun K5 hk5 => ?_
    refine tC 1 F1 ?_
    refine tS 1 F1 ?_
    refine tS 1 F1 ?_
    refine Or.inl (Or.inl ⟨_, k0, ?_⟩)
    refine tL F1 ?_
    refine hk5 _ ?_
    refine hn4 (some ([1, 2, 4, 10], none)) _ ?_
    refine eCt ?_
    refine eS fun K6 hn6 hr6 he6 => ?_
    refine eO fun K7 hk7 => ?_
    refine tZ F1 ?_
    refine hk7 _ ?_
    refine hn6 (some ([4], none)) _ ?_
    refine hr3 _ ?_
    exact sf1 F1
  | true =>
    rw [hc] at k0
    rw [if_pos rfl]
    have hi := inC_iff.1 hc
    have b1 : -9223372036854775808 ≤ x := by omega
    have b2 : x ≤ 9223372036854775807 := by omega
    cases hl : s.lists x with
    | none =>
      have hl' : mLists s.lists x = none := by simp [hl]
      have k1 := ok_veAdd [] 0 0 (by decide) (.inl rfl) (by decide)
      unfold evFn sc_snList rv_snList
      have F1 := And.intro @hO (And.intro @hA (And.intro @hT (And.intro @hF (And.intro @hl' (And.intro @sgd_none (And.intro @sgd_some (And.intro @sis_none @sis_some)))))))
      refine eS fun K1 hn1 hr1 he1 => ?_
      refine eO fun K2 hk2 => ?_
      refine tL F1 ?_
      refine hk2 _ ?_
      refine hn1 (some ([1, 2, 4], none)) _ ?_
      refine eS fun K3 hn3 hr3 he3 => ?_
      refine eS fun K4 hn4 hr4 he4 => ?_
      refine eO fun K5 hk5 => ?_
      refine tC 1 F1 ?_
      refine tS 1 F1 ?_
      refine tS 1 F1 ?_
      refine Or.inl (Or.inl ⟨_, k0, ?_⟩)
      refine tL F1 ?_
      refine hk5 _ ?_
      refine hn4 (some ([1, 2, 4, 10], none)) _ ?_
      refine eCf ?_
      refine hn3 (some ([1, 2, 4], none)) _ ?_
      refine eS fun K6 hn6 hr6 he6 => ?_
      refine eO fun K7 hk7 => ?_
      refine tC 2 F1 ?_
      refine tC 2 F1 ?_
      refine tC 5 F1 ?_
      refine tL F1 ?_
      refine hk7 _ ?_
      refine hn6 (some ([4, 5, 6], none)) _ ?_
      refine eS fun K8 hn8 hr8 he8 => ?_
      refine eS fun K9 hn9 hr9 he9 => ?_
      refine eO fun K10 hk10 => ?_
      refine tL F1 ?_
      refine hk10 _ ?_
      refine hn9 (some ([4, 5, 20], none)) _ ?_
      refine eCt ?_
      refine eO fun K11 hk11 => ?_
      refine tC 1 F1 ?_
      refine tS 1 F1 ?_
      refine Or.inl (Or.inl ⟨_, k1, ?_⟩)
      refine tZ F1 ?_
      refine hk11 _ ?_
      refine hn8 (some ([4, 5], none)) _ ?_
      refine eS fun K12 hn12 hr12 he12 => ?_
      refine eO fun K13 hk13 => ?_
      refine tC 1 F1 ?_
      refine tZ F1 ?_
      refine hk13 _ ?_
      refine hn12 (some ([4], none)) _ ?_
      exact sf1 F1
    | some l =>
      have hl' : mLists s.lists x = some (shVl l) := by simp [hl]
      unfold evFn sc_snList rv_snList
      have F1 := And.intro @hO (And.intro @hA (And.intro @hT (And.intro @hF (And.intro @hl' (And.intro @sgd_none (And.intro @sgd_some (And.intro @sis_none @sis_some)))))))
      refine eS fun K1 hn1 hr1 he1 => ?_
      refine eO fun K2 hk2 => ?_
      refine tL F1 ?_
      refine hk2 _ ?_
      refine hn1 (some ([1, 2, 4], none)) _ ?_
      refine eS fun K3 hn3 hr3 he3 => ?_
      refine eS fun K4 hn4 hr4 he4 => ?_
      refine eO fun K5 hk5 => ?_
      refine tC 1 F1 ?_
      refine tS 1 F1 ?_
      refine tS 1 F1 ?_
      refine Or.inl (Or.inl ⟨_, k0, ?_⟩)
      refine tL F1 ?_
      refine hk5 _ ?_
      refine hn4 (some ([1, 2, 4, 10], none)) _ ?_
      refine eCf ?_
      refine hn3 (some ([1, 2, 4], none)) _ ?_
      refine eS fun K6 hn6 hr6 he6 => ?_
      refine eO fun K7 hk7 => ?_
      refine tC 2 F1 ?_
      refine tC 2 F1 ?_
      refine tC 5 F1 ?_
      refine tL F1 ?_
      refine hk7 _ ?_
      refine hn6 (some ([4, 5, 6], none)) _ ?_
      refine eS fun K8 hn8 hr8 he8 => ?_
      refine eS fun K9 hn9 hr9 he9 => ?_
      refine eO fun K10 hk10 => ?_
      refine tL F1 ?_
      refine hk10 _ ?_
      refine hn9 (some ([4, 5, 20], none)) _ ?_
      refine eCf ?_
      refine hn8 (some ([4, 5], none)) _ ?_
      refine eS fun K11 hn11 hr11 he11 => ?_
      refine eO fun K12 hk12 => ?_
      refine tC 1 F1 ?_
      refine tZ F1 ?_
      refine hk12 _ ?_
      refine hn11 (some ([4], none)) _ ?_
      exact sf1 F1
theorem ok_snWord {s : SnM} (h : SnOk s) (x : Int) (hc : inC s x = true) : Ok 25 [shSn s, sI x] (.agg (eWord ⟨(lastP (listM s x)).2, (s.writes x).getD 0, 0⟩)) := by
  refine ok_of_tr Try.func25 tr_snWord rfl ?_
  have hL : (eRds s.rd).length = 16 := by rw [eRds_len, h.rd]
  have hO := eRds_one s.rd
  have hA := fun S => eRds_arg S s.rd
  have hT := eRds_take h.rd
  have hF := fun S => eRds_frz S s.rd
  have k0 := ok_snList h x
  have k1 := ok_veLast (listM s x) (by have := h.len x; omega)
  have h1 := h.c2
  have hi := inC_iff.1 hc
  have b1 : -9223372036854775808 ≤ x := by omega
  have b2 : x ≤ 9223372036854775807 := by omega
  generalize listM s x = l at k0 k1 ⊢
  generalize lastP l = p at k1 ⊢
  cases hw : s.writes x with
  | none =>
    have hw' : mWrites s.writes x = none := by simp [hw]
    unfold evFn sc_snWord rv_snWord
    have F1 := And.intro @hO (And.intro @hA (And.intro @hT (And.intro @hF (And.intro @hw' (And.intro @sgd_none @sgd_some)))))
    refine eS fun K1 hn1 hr1 he1 => ?_
    refine eO fun K2 hk2 => ?_
    refine tL F1 ?_
    refine hk2 _ ?_
    refine hn1 (some ([1, 2, 4], none)) _ ?_
    refine eS fun K3 hn3 hr3 he3 => ?_
    refine eO fun K4 hk4 => ?_
    refine tC 1 F1 ?_
    refine tS 1 F1 ?_
    refine tS 1 F1 ?_
    refine Or.inl (Or.inl ⟨_, k0, ?_⟩)
    refine tS 1 F1 ?_
    refine Or.inl (Or.inl ⟨_, k1, ?_⟩)
    refine tL F1 ?_
    refine hk4 _ ?_
    refine hn3 (some ([1, 2, 4, 6], none)) _ ?_
    refine eS fun K5 hn5 hr5 he5 => ?_
    refine eO fun K6 hk6 => ?_
    refine tC 3 F1 ?_
    refine tC 2 F1 ?_
    refine tZ F1 ?_
    refine hk6 _ ?_
    refine hn5 (some ([4], none)) _ ?_
    exact sf1 F1
  | some n =>
    have hw' : mWrites s.writes x = some (sU n) := by simp [hw]
    unfold evFn sc_snWord rv_snWord
    have F1 := And.intro @hO (And.intro @hA (And.intro @hT (And.intro @hF (And.intro @hw' (And.intro @sgd_none @sgd_some)))))
    refine eS fun K1 hn1 hr1 he1 => ?_
    refine eO fun K2 hk2 => ?_
    refine tL F1 ?_
    refine hk2 _ ?_
    refine hn1 (some ([1, 2, 4], none)) _ ?_
    refine eS fun K3 hn3 hr3 he3 => ?_
    refine eO fun K4 hk4 => ?_
    refine tC 1 F1 ?_
    refine tS 1 F1 ?_
    refine tS 1 F1 ?_
    refine Or.inl (Or.inl ⟨_, k0, ?_⟩)
    refine tS 1 F1 ?_
    refine Or.inl (Or.inl ⟨_, k1, ?_⟩)
    refine tL F1 ?_
    refine hk4 _ ?_
    refine hn3 (some ([1, 2, 4, 6], none)) _ ?_
    refine eS fun K5 hn5 hr5 he5 => ?_
    refine eO fun K6 hk6 => ?_
    refine tC 3 F1 ?_
    refine tC 2 F1 ?_
    refine tZ F1 ?_
    refine hk6 _ ?_
    refine hn5 (some ([4], none)) _ ?_
    exact sf1 F1
/-- A reader is open. -/
def isR (s : SnM) (n : Int) : Bool := decide (1 ≤ n) && (decide (n ≤ 8) && ((s.rd[(n - 1).toNat]?).map (·.1)).getD false)
theorem isR_at {s : SnM} (h8 : s.rd.length = 8) {i : Nat} (hi : i < 8) : ∃ r, s.rd[i]? = some r ∧ isR s ((i + 1 : Nat) : Int) = r.1 := by
  obtain ⟨r, hr⟩ : ∃ r, s.rd[i]? = some r := ⟨_, List.getElem?_eq_getElem (by omega)⟩
  refine ⟨r, hr, ?_⟩
  unfold isR
  rw [show (((i + 1 : Nat) : Int) - 1).toNat = i by omega, hr, decide_eq_true (show (1 : Int) ≤ ((i + 1 : Nat) : Int) by omega), decide_eq_true (show ((i + 1 : Nat) : Int) ≤ 8 by omega)]
  rfl
theorem ok_snIs (s : SnM) (h8 : s.rd.length = 8) (n : Int) (hn : -9223372036854775808 < n) : Ok 15 [shSn s, sI n] (sB (isR s n)) := by
  refine ok_of_tr Try.func15 tr_snIs rfl ?_
  have hL : (eRds s.rd).length = 16 := by rw [eRds_len]; omega
  have hO := eRds_one s.rd
  by_cases h1 : 1 ≤ n
  · by_cases h2 : n ≤ 8
    · obtain ⟨i, rfl⟩ : ∃ i : Nat, n = ((i + 1 : Nat) : Int) := ⟨(n - 1).toNat, by omega⟩
      obtain ⟨r, hr, e⟩ := isR_at h8 (i := i) (by omega)
      rw [e]
      obtain ⟨g1, g2, g3⟩ := eRds_get hr
      have w1 : IntKind.i64.wrap (((i + 1 : Nat) : Int) - 1) = (i : Int) := by rw [IntKind.wrap_i64]; omega
      have w2 : (i : Int) < 8 := by omega
      have w3 : (sI s.cells :: sI s.now :: Sh.mp 44 (mLists s.lists) :: Sh.mp 44 (mWrites s.writes) :: eRds s.rd)[4 + i * 2]? = some (sB r.1) := by
        rw [show 4 + i * 2 = i * 2 + 4 by omega]; exact g1
      unfold evFn sc_snIs rv_snIs
      have F1 := And.intro @hO (And.intro @h1 (And.intro @h2 (And.intro @w1 (And.intro @w2 @w3))))
      refine eS fun K1 hn1 hr1 he1 => ?_
      refine eO fun K2 hk2 => ?_
      refine tL F1 ?_
      refine hk2 _ ?_
      refine hn1 (some ([1, 2], none)) _ ?_
      refine eS fun K3 hn3 hr3 he3 => ?_
      refine eO fun K4 hk4 => ?_
      refine tC 2 F1 ?_
      refine tC 3 F1 ?_
      refine tC 4 F1 ?_
      refine tC 2 F1 ?_
      refine tC 2 F1 ?_
      refine tL F1 ?_
      refine hk4 _ ?_
      refine hn3 (some ([4], none)) _ ?_
      exact sf1 F1
    · have e : isR s n = false := by unfold isR; rw [decide_eq_false h2]; simp
      rw [e]
      unfold evFn sc_snIs rv_snIs
      have F1 := And.intro @hO (And.intro @h1 @h2)
      refine eS fun K1 hn1 hr1 he1 => ?_
      refine eO fun K2 hk2 => ?_
      refine tL F1 ?_
      refine hk2 _ ?_
      refine hn1 (some ([1, 2], none)) _ ?_
      refine eS fun K3 hn3 hr3 he3 => ?_
      refine eO fun K4 hk4 => ?_
      refine tC 2 F1 ?_
      refine tC 3 F1 ?_
      refine tC 4 F1 ?_
      refine tC 2 F1 ?_
      refine tC 2 F1 ?_
      refine tL F1 ?_
      refine hk4 _ ?_
      refine hn3 (some ([4], none)) _ ?_
      exact sf1 F1
  · have e : isR s n = false := by unfold isR; rw [decide_eq_false h1]; simp
    rw [e]
    unfold evFn sc_snIs rv_snIs
    have F1 := And.intro @hO @h1
    refine eS fun K1 hn1 hr1 he1 => ?_
    refine eO fun K2 hk2 => ?_
    refine tL F1 ?_
    refine hk2 _ ?_
    refine hn1 (some ([1, 2], none)) _ ?_
    refine eS fun K3 hn3 hr3 he3 => ?_
    refine eO fun K4 hk4 => ?_
    refine tC 2 F1 ?_
    refine tC 3 F1 ?_
    refine tC 4 F1 ?_
    refine tC 2 F1 ?_
    refine tC 2 F1 ?_
    refine tL F1 ?_
    refine hk4 _ ?_
    refine hn3 (some ([4], none)) _ ?_
    exact sf1 F1
end Go.Proofs.Ytijblpkdfmkcfaa
