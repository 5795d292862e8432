/-
  TopSnapshot by shadows: words, the search, versions.
-/
import Derived.Test.YtijblpkdfmkcfaaMC
import Derived.Test.YtijblpkdfmkcfaaGen2
import Derived.Test.YtijblpkdfmkcfaaScT0
namespace Go.Proofs.Ytijblpkdfmkcfaa
set_option linter.unusedSimpArgs false
set_option linter.unusedVariables false
open Go.RowKit Go.Maps

/-! ### Words -/
theorem gen_shr {t t2 : TypeId} {x y : Operand} {k k2 : IntKind} {p : Int} {q : Nat} (hq : q ≤ k.bits) : GenRel (.binOp .shr t x y t2) [x, y] [.v (.int k p), .v (.int k2 q)] (.v (.int k (p.fdiv (2 ^ q)))) := gen_val fun o a w H ho hS hA => by
  cases hA with
  | cons hx hA =>
    cases hA with
    | cons hy hA =>
      generalize hq : a.eval x = u at hx
      generalize hqj : a.eval y = v at hy
      cases hx; cases hy
      refine ⟨_, ?_, .v rfl⟩
      have h0 : ¬ (q : Int) < 0 := by omega
      simp [execOp, ho, hq, hqj, eqGuard, binOp, Op.shift, h0, Nat.min_eq_left (by assumption)]
theorem ok_woRef0 : Ok 44 [sI 0, sI 0] (.tup [sU 0, sI 3]) := by
  refine ok_of_tr Try.func44 tr_woRef rfl ?_
  unfold evFn sc_woRef rv_woRef
  refine eS fun K1 hn1 hr1 he1 => ?_
  refine eO fun K2 hk2 => ?_
  refine tL0 ?_
  refine hk2 _ ?_
  refine hn1 (some ([0, 1], none)) _ ?_
  refine eS fun K3 hn3 hr3 he3 => ?_
  refine eS fun K4 hn4 hr4 he4 => ?_
  refine eO fun K5 hk5 => ?_
  refine tC0 2 ?_
  refine tC0 3 ?_
  refine tC0 4 ?_
  refine tC0 4 ?_
  refine tL0 ?_
  refine hk5 _ ?_
  refine hn4 (some ([0, 1, 19], none)) _ ?_
  refine eCt ?_
  refine eS fun K6 hn6 hr6 he6 => ?_
  refine eO fun K7 hk7 => ?_
  refine tL0 ?_
  refine hk7 _ ?_
  refine hn6 (some ([4, 5], none)) _ ?_
  refine hr3 _ ?_
  exact sf0
theorem ok_woWho0 : Ok 43 [sU 0] (.tup [sI 0, sI 0]) := by
  refine ok_of_tr Try.func43 tr_woWho rfl ?_
  have e1 : Int.fdiv 0 (2 ^ 24) = 0 := by decide
  have e2 : bitsI .and .u32 0 16777215 = 0 := by decide
  unfold evFn sc_woWho rv_woWho
  have F1 := And.intro @e1 @e2
  refine eS fun K1 hn1 hr1 he1 => ?_
  refine eO fun K2 hk2 => ?_
  refine tL F1 ?_
  refine hk2 _ ?_
  refine hn1 (some ([0], none)) _ ?_
  refine eS fun K3 hn3 hr3 he3 => ?_
  refine eO fun K4 hk4 => ?_
  refine tS 1 F1 ?_
  refine tS 1 F1 ?_
  refine Or.inl ⟨_, gen_shr (q := 24) (by decide), ?_⟩
  refine tS 2 F1 ?_
  refine tS 1 F1 ?_
  refine Or.inl ⟨_, gen_bits (.inl rfl), ?_⟩
  refine tL F1 ?_
  refine hk4 _ ?_
  refine hn3 (some ([4, 5], none)) _ ?_
  refine eS fun K5 hn5 hr5 he5 => ?_
  refine eS fun K6 hn6 hr6 he6 => ?_
  refine eO fun K7 hk7 => ?_
  refine tS 2 F1 ?_
  refine tS 1 F1 ?_
  refine Or.inl (Or.inl ⟨_, ok_woRef0, ?_⟩)
  refine tL F1 ?_
  refine hk7 _ ?_
  refine hn6 (some ([4, 5, 7], none)) _ ?_
  refine eS fun K8 hn8 hr8 he8 => ?_
  refine eO fun K9 hk9 => ?_
  refine tZ F1 ?_
  refine hk9 _ ?_
  refine hn8 (some ([4, 5, 21], none)) _ ?_
  refine eCt ?_
  refine eS fun K10 hn10 hr10 he10 => ?_
  refine eO fun K11 hk11 => ?_
  refine tL F1 ?_
  refine hk11 _ ?_
  refine hn10 (some ([2, 3], none)) _ ?_
  refine hr5 _ ?_
  exact sf1 F1
theorem ok_woKind0 (v n : Int) : Ok 42 [.agg (eWord ⟨v, n, 0⟩)] (sI 0) := by
  refine ok_of_tr Try.func42 tr_woKind rfl ?_
  unfold evFn sc_woKind rv_woKind
  refine eS fun K1 hn1 hr1 he1 => ?_
  refine eO fun K2 hk2 => ?_
  refine tL0 ?_
  refine hk2 _ ?_
  refine hn1 (some ([1], none)) _ ?_
  refine eS fun K3 hn3 hr3 he3 => ?_
  refine eO fun K4 hk4 => ?_
  refine tC0 2 ?_
  refine tS0 1 ?_
  refine Or.inl (Or.inl ⟨_, ok_woWho0, ?_⟩)
  refine tL0 ?_
  refine hk4 _ ?_
  refine hn3 (some ([1, 3], none)) _ ?_
  refine eS fun K5 hn5 hr5 he5 => ?_
  refine eB fun K6 hn6 hx6 hr6 he6 => ?_
  refine eS fun K7 hn7 hr7 he7 => ?_
  refine eO fun K8 hk8 => ?_
  refine tC0 2 ?_
  refine tC0 1 ?_
  refine tL0 ?_
  refine hk8 _ ?_
  refine hn7 (some ([3, 11], none)) _ ?_
  refine eCt ?_
  refine eS fun K9 hn9 hr9 he9 => ?_
  refine eO fun K10 hk10 => ?_
  refine tL0 ?_
  refine hk10 _ ?_
  refine hn9 (some ([2], none)) _ ?_
  refine hr6 _ ?_
  refine hr5 _ ?_
  exact sf0
theorem ok_woPlain0 (v n : Int) : Ok 39 [.agg (eWord ⟨v, n, 0⟩)] (sB true) := by
  refine ok_of_tr Try.func39 tr_woPlain rfl ?_
  unfold evFn sc_woPlain rv_woPlain
  refine eS fun K1 hn1 hr1 he1 => ?_
  refine eO fun K2 hk2 => ?_
  refine tL0 ?_
  refine hk2 _ ?_
  refine hn1 (some ([1], none)) _ ?_
  refine eS fun K3 hn3 hr3 he3 => ?_
  refine eO fun K4 hk4 => ?_
  refine tC0 1 ?_
  refine tS0 1 ?_
  refine Or.inl (Or.inl ⟨_, ok_woKind0 v n, ?_⟩)
  refine tC0 1 ?_
  refine tL0 ?_
  refine hk4 _ ?_
  refine hn3 (some ([2], none)) _ ?_
  exact sf0

/-! ### Versions -/
abbrev eOne (p : Int × Int) : List Sh := [sI p.1, sI p.2]
abbrev shVl (l : List (Int × Int)) : Sh := .agg [.sl 2 0 (l.map eOne)]
def afterN (l : List (Int × Int)) (t : Int) : Nat := (l.takeWhile fun p => decide (p.1 ≤ t)).length
theorem afterN_le (l : List (Int × Int)) (t : Int) : afterN l t ≤ l.length := by
  unfold afterN
  have := List.takeWhile_prefix (fun p : Int × Int => decide (p.1 ≤ t)) (l := l)
  exact this.length_le
/-- What the search looks for. -/
theorem afterN_eq {l : List (Int × Int)} {t : Int} : ∀ {i : Nat}, i ≤ l.length → (∀ (j : Nat) p, j < i → l[j]? = some p → p.1 ≤ t) → (∀ p, l[i]? = some p → t < p.1) → afterN l t = i := by
  unfold afterN
  induction l with
  | nil => intro i hi _ _; simp at hi; subst hi; rfl
  | cons p l ih =>
    intro i hi h1 h2
    cases i with
    | zero =>
      have := h2 p rfl
      rw [List.takeWhile_cons_of_neg (by simp; omega)]; rfl
    | succ i =>
      have := h1 0 p (by omega) rfl
      rw [List.takeWhile_cons_of_pos (by simp; omega), List.length_cons, ih (i := i) (by simpa using hi) (fun j q hj hq => h1 (j + 1) q (by omega) (by simpa using hq)) (fun q hq => h2 q (by simpa using hq))]
/-- The stamps of a list are ascending. -/
def VSort (l : List (Int × Int)) : Prop := ∀ (i j : Nat) p q, i < j → l[i]? = some p → l[j]? = some q → p.1 < q.1
def capV (l : List (Int × Int)) (t : Int) : List Sh := [.fp [.sl 2 0 (l.map eOne)] 0, .fp [sI t] 0]
theorem ok_veAfter1 (l : List (Int × Int)) (t : Int) {i : Nat} {p : Int × Int} (h : l[i]? = some p) : Ok 38 (sI i :: capV l t) (sB (decide (t < p.1))) := by
  refine ok_of_tr Try.func38 tr_veAfter1 rfl ?_
  unfold capV
  unfold evFn sc_veAfter1 rv_veAfter1
  have F1 := @h
  refine eS fun K1 hn1 hr1 he1 => ?_
  refine eO fun K2 hk2 => ?_
  refine tL F1 ?_
  refine hk2 _ ?_
  refine hn1 (some ([0, 1, 2], none)) _ ?_
  refine eS fun K3 hn3 hr3 he3 => ?_
  refine eD [] (n := 7) fun K4 hk4 => ?_
  refine sq0 ?_
  refine fC 2 F1 ?_
  refine fC 2 F1 ?_
  refine fC 2 F1 ?_
  refine fZ F1 ?_
  refine hk4 _ ?_
  refine sr0 ?_
  refine tC 1 F1 ?_
  refine tL F1 ?_
  refine hn3 (some ([4], none)) _ ?_
  exact sf1 F1
theorem enters_veAfter1 : Enters 38 := callFunc_enter Try.func38 rfl rfl
def SeInv (l : List (Int × Int)) (t : Int) (k : Nat) (S : St) : Prop :=
  ∃ i j : Nat, i ≤ j ∧ j ≤ l.length ∧ k = j - i ∧ (∀ (a : Nat) p, a < i → l[a]? = some p → p.1 ≤ t) ∧ (∀ p, l[j]? = some p → t < p.1) ∧ S = ⟨[(1, .fn (.func 38) [] (capV l t)), (5, sI i), (6, sI j)], [], 0⟩
set_option maxHeartbeats 2000000 in
theorem ok_search (l : List (Int × Int)) (t : Int) (hs : VSort l) (hn : l.length ≤ 1000000) : Ok 37 [sI l.length, .fn (.func 38) [] (capV l t)] (sI (afterN l t)) := by
  refine ok_of_tr Try.func37 tr_search rfl ?_
  unfold evFn sc_search rv_search
  refine eS fun K1 hn1 hr1 he1 => ?_
  refine eO fun K2 hk2 => ?_
  refine tL0 ?_
  refine hk2 _ ?_
  refine hn1 (some ([0, 1], none)) _ ?_
  refine eS fun K3 hn3 hr3 he3 => ?_
  refine eO fun K4 hk4 => ?_
  refine tL0 ?_
  refine hk4 _ ?_
  refine hn3 (some ([1, 5, 6], none)) _ ?_
  refine eS fun K5 hn5 hr5 he5 => ?_
  refine eB fun K6 hn6 hx6 hr6 he6 => ?_
  refine eW (SeInv l t) (l.length) (some ([1, 5, 6], none)) ([]) ?_ ?_
  · try refine lp0 ?_
    exact ⟨0, l.length, by omega, by omega, by omega, fun j p hj => absurd hj (by omega), fun p hp => (by rw [List.getElem?_eq_none (Nat.le_refl _)] at hp; cases hp), by rfl⟩
  · intro k S1 hI
    obtain ⟨i, j, hij, hjl, rfl, hlo, hhi, rfl⟩ := hI
    have hcase : i = j ∨ (∃ p, l[(i + j) / 2]? = some p ∧ t < p.1 ∧ i < j) ∨ (∃ p, l[(i + j) / 2]? = some p ∧ p.1 ≤ t ∧ i < j) := by
      rcases Nat.lt_or_ge i j with h | h
      · have h1 := List.getElem?_eq_getElem (l := l) (i := (i + j) / 2) (by omega)
        rcases Int.lt_or_le t (l[(i + j) / 2]'(by omega)).1 with h2 | h2
        · exact .inr (.inl ⟨_, h1, h2, h⟩)
        · exact .inr (.inr ⟨_, h1, h2, h⟩)
      · exact .inl (by omega)
    intro K7 hn7 hr7 he7
    rcases hcase with hcc | ⟨p, hp, hpt, hcc⟩ | ⟨p, hp, hpt, hcc⟩
    · skip
      subst hcc
      have w2 : ¬ (i : Int) < (i : Int) := by omega
      have e1 : afterN l t = i := afterN_eq hjl hlo hhi
      have F1 := And.intro @w2 @e1
      refine eS fun K8 hn8 hr8 he8 => ?_
      refine eS fun K9 hn9 hr9 he9 => ?_
      refine eO fun K10 hk10 => ?_
      refine tZ F1 ?_
      refine hk10 _ ?_
      refine hn9 (some ([1, 5, 6, 11], none)) _ ?_
      refine eCf ?_
      refine he8 0 _ ?_
      refine he7 0 _ ?_
      refine hx6 _ ?_
      refine hn5 (some ([5], none)) _ ?_
      refine eS fun K11 hn11 hr11 he11 => ?_
      refine eO fun K12 hk12 => ?_
      refine tL F1 ?_
      refine hk12 _ ?_
      refine hn11 (some ([4], none)) _ ?_
      exact sf1 F1
    · skip
      have w2 : (i : Int) < (j : Int) := by omega
      have w3 : IntKind.i64.wrap ((i : Int) + (j : Int)) = ((i + j : Nat) : Int) := by rw [IntKind.wrap_i64]; omega
      have w4 : IntKind.u64.wrap ((i + j : Nat) : Int) = ((i + j : Nat) : Int) := by rw [IntKind.wrap_u64]; omega
      have w5 : Int.fdiv ((i + j : Nat) : Int) (2 ^ 1) = (((i + j) / 2 : Nat) : Int) := by rw [Int.fdiv_eq_ediv_of_nonneg _ (by decide)]; omega
      have w6 : IntKind.i64.wrap (((i + j) / 2 : Nat) : Int) = (((i + j) / 2 : Nat) : Int) := by rw [IntKind.wrap_i64]; omega
      have kf := ok_veAfter1 l t hp
      rw [decide_eq_true hpt] at kf
      have F2 := And.intro @w2 (And.intro @w3 (And.intro @w4 (And.intro @w5 @w6)))
      refine eS fun K13 hn13 hr13 he13 => ?_
      refine eS fun K14 hn14 hr14 he14 => ?_
      refine eO fun K15 hk15 => ?_
      refine tZ F2 ?_
      refine hk15 _ ?_
      refine hn14 (some ([1, 5, 6, 11], none)) _ ?_
      refine eCt ?_
      refine hn13 (some ([1, 5, 6], none)) _ ?_
      refine eB fun K16 hn16 hx16 hr16 he16 => ?_
      refine eS fun K17 hn17 hr17 he17 => ?_
      refine eO fun K18 hk18 => ?_
      refine tC 3 F2 ?_
      refine tS 1 F2 ?_
      refine tS 1 F2 ?_
      refine Or.inl ⟨_, gen_shr (q := 1) (by decide), ?_⟩
      refine tL F2 ?_
      refine hk18 _ ?_
      refine hn17 (some ([1, 5, 6, 7], none)) _ ?_
      refine eS fun K19 hn19 hr19 he19 => ?_
      refine eO fun K20 hk20 => ?_
      refine tS 2 F2 ?_
      refine tS 1 F2 ?_
      refine Or.inl ⟨enters_veAfter1, _, kf, ?_⟩
      refine tL F2 ?_
      refine hk20 _ ?_
      refine hn19 (some ([1, 5, 6, 7, 21], none)) _ ?_
      refine eCf ?_
      refine eO fun K21 hk21 => ?_
      refine tL F2 ?_
      refine hk21 _ ?_
      refine hn16 _ ?_
      refine hn7 ((i + j) / 2 - i) (some ([1, 5, 6], none)) _ ?_ ?_
      all_goals try refine lp0 ?_
      · omega
      · refine ⟨i, (i + j) / 2, by omega, by omega, rfl, hlo, fun q hq => ?_, rfl⟩
        rw [hp] at hq; cases hq; exact hpt
    · skip
      have w2 : (i : Int) < (j : Int) := by omega
      have w3 : IntKind.i64.wrap ((i : Int) + (j : Int)) = ((i + j : Nat) : Int) := by rw [IntKind.wrap_i64]; omega
      have w4 : IntKind.u64.wrap ((i + j : Nat) : Int) = ((i + j : Nat) : Int) := by rw [IntKind.wrap_u64]; omega
      have w5 : Int.fdiv ((i + j : Nat) : Int) (2 ^ 1) = (((i + j) / 2 : Nat) : Int) := by rw [Int.fdiv_eq_ediv_of_nonneg _ (by decide)]; omega
      have w6 : IntKind.i64.wrap (((i + j) / 2 : Nat) : Int) = (((i + j) / 2 : Nat) : Int) := by rw [IntKind.wrap_i64]; omega
      have w7 : IntKind.i64.wrap ((((i + j) / 2 : Nat) : Int) + 1) = (((i + j) / 2 + 1 : Nat) : Int) := by rw [IntKind.wrap_i64]; omega
      have kf := ok_veAfter1 l t hp
      rw [decide_eq_false (show ¬ t < p.1 by omega)] at kf
      have F3 := And.intro @w2 (And.intro @w3 (And.intro @w4 (And.intro @w5 (And.intro @w6 @w7))))
      refine eS fun K22 hn22 hr22 he22 => ?_
      refine eS fun K23 hn23 hr23 he23 => ?_
      refine eO fun K24 hk24 => ?_
      refine tZ F3 ?_
      refine hk24 _ ?_
      refine hn23 (some ([1, 5, 6, 11], none)) _ ?_
      refine eCt ?_
      refine hn22 (some ([1, 5, 6], none)) _ ?_
      refine eB fun K25 hn25 hx25 hr25 he25 => ?_
      refine eS fun K26 hn26 hr26 he26 => ?_
      refine eO fun K27 hk27 => ?_
      refine tC 3 F3 ?_
      refine tS 1 F3 ?_
      refine tS 1 F3 ?_
      refine Or.inl ⟨_, gen_shr (q := 1) (by decide), ?_⟩
      refine tL F3 ?_
      refine hk27 _ ?_
      refine hn26 (some ([1, 5, 6, 7], none)) _ ?_
      refine eS fun K28 hn28 hr28 he28 => ?_
      refine eO fun K29 hk29 => ?_
      refine tS 2 F3 ?_
      refine tS 1 F3 ?_
      refine Or.inl ⟨enters_veAfter1, _, kf, ?_⟩
      refine tL F3 ?_
      refine hk29 _ ?_
      refine hn28 (some ([1, 5, 6, 7, 21], none)) _ ?_
      refine eCt ?_
      refine eO fun K30 hk30 => ?_
      refine tC 2 F3 ?_
      refine tL F3 ?_
      refine hk30 _ ?_
      refine hn25 _ ?_
      refine hn7 (j - ((i + j) / 2 + 1)) (some ([1, 5, 6], none)) _ ?_ ?_
      all_goals try refine lp0 ?_
      · omega
      · refine ⟨(i + j) / 2 + 1, j, by omega, by omega, rfl, fun a q ha hq => ?_, hhi, rfl⟩
        rcases Nat.lt_or_ge a ((i + j) / 2) with h | h
        · have := hs a ((i + j) / 2) q p h hq hp
          omega
        · obtain rfl : a = (i + j) / 2 := by omega
          rw [hp] at hq; cases hq; exact hpt
theorem ok_veAfter (l : List (Int × Int)) (t : Int) (hs : VSort l) (hn : l.length ≤ 1000000) : Ok 31 [shVl l, sI t] (sI (afterN l t)) := by
  refine ok_of_tr Try.func31 tr_veAfter rfl ?_
  have k0 := ok_search l t hs hn
  unfold capV at k0
  unfold evFn sc_veAfter rv_veAfter
  refine eS fun K1 hn1 hr1 he1 => ?_
  refine eO fun K2 hk2 => ?_
  refine tL0 ?_
  refine hk2 _ ?_
  refine hn1 (some ([2, 3], none)) _ ?_
  refine eS fun K3 hn3 hr3 he3 => ?_
  refine eO fun K4 hk4 => ?_
  refine tC0 2 ?_
  refine tS0 2 ?_
  refine tS0 1 ?_
  refine Or.inl (Or.inl ⟨_, k0, ?_⟩)
  refine tL0 ?_
  refine hk4 _ ?_
  refine hn3 (some ([4], none)) _ ?_
  exact sf0
theorem ok_veLen (l : List (Int × Int)) : Ok 20 [shVl l] (sI l.length) := by
  refine ok_of_tr Try.func20 tr_veLen rfl ?_
  unfold evFn sc_veLen rv_veLen
  refine eS fun K1 hn1 hr1 he1 => ?_
  refine eO fun K2 hk2 => ?_
  refine tL0 ?_
  refine hk2 _ ?_
  refine hn1 (some ([1], none)) _ ?_
  refine eS fun K3 hn3 hr3 he3 => ?_
  refine eO fun K4 hk4 => ?_
  refine tC0 2 ?_
  refine tL0 ?_
  refine hk4 _ ?_
  refine hn3 (some ([2], none)) _ ?_
  exact sf0
end Go.Proofs.Ytijblpkdfmkcfaa
