/-
  TopSnapshot by shadows: the store, reading.
-/
import Derived.Test.YtijblpkdfmkcfaaKTb
import Derived.Test.YtijblpkdfmkcfaaGen3
namespace Go.Proofs.Ytijblpkdfmkcfaa
set_option linter.unusedSimpArgs false
set_option linter.unusedVariables false
open Go.RowKit Go.Maps

theorem sgd_none (z : Sh) : (none : Option Sh).getD z = z := rfl
theorem sgd_some (x z : Sh) : (some x).getD z = x := rfl
theorem sis_none : (none : Option Sh).isSome = false := rfl
theorem sis_some (x : Sh) : (some x).isSome = true := rfl

/-! ### The readers of a store -/
def eRds : List (Bool × Int) → List Sh
  | [] => []
  | r :: l => sB r.1 :: sI r.2 :: eRds l
theorem eRds_len (l : List (Bool × Int)) : (eRds l).length = 2 * l.length := by
  induction l with
  | nil => rfl
  | cons r l ih => simp only [eRds, List.length_cons, ih]; omega
theorem eRds_one (l : List (Bool × Int)) : (eRds l).all Sh.one = true := by
  induction l with
  | nil => rfl
  | cons r l ih => simp only [eRds, List.all_cons, ih]; rfl
theorem eRds_arg (S : St) (l : List (Bool × Int)) : S.argL (eRds l) = some (eRds l) := by
  induction l with
  | nil => rfl
  | cons r l ih => simp only [eRds, St.argL, St.arg1, St.res, Sh.pure, ih]; rfl
theorem eRds_frz (S : St) (l : List (Bool × Int)) : S.frzCells (eRds l) = S := by
  induction l with
  | nil => rfl
  | cons r l ih => simp only [eRds, St.frzCells, ih]
theorem eRds_refs (ids : List Nat) (l : List (Bool × Int)) : refsL ids (eRds l) = true := by
  induction l with
  | nil => rfl
  | cons r l ih => simp only [eRds, refsL, refsC, ih]; rfl
theorem eRds_ren (ids : List Nat) (l : List (Bool × Int)) : (eRds l).map (renC ids) = eRds l := by
  induction l with
  | nil => rfl
  | cons r l ih => simp only [eRds, List.map_cons, renC, ih]
theorem eRds_take {l : List (Bool × Int)} (h : l.length = 8) : (eRds l).take 16 = eRds l := List.take_of_length_le (by rw [eRds_len]; omega)
theorem eRds_get {l : List (Bool × Int)} : ∀ {i : Nat} {r}, l[i]? = some r → (eRds l)[i * 2]? = some (sB r.1) ∧ (eRds l)[i * 2 + 1]? = some (sI r.2) ∧ ((eRds l).drop (i * 2)).take 2 = [sB r.1, sI r.2] := by
  induction l with
  | nil => intro i r h; simp at h
  | cons q l ih =>
    intro i r h
    cases i with
    | zero => simp at h; subst h; exact ⟨rfl, rfl, rfl⟩
    | succ i =>
      have := ih (i := i) (r := r) (by simpa using h)
      rw [show (i + 1) * 2 = i * 2 + 2 by omega]
      exact this
theorem eRds_set {l : List (Bool × Int)} : ∀ {i : Nat} (r : Bool × Int), i < l.length → eRds (l.set i r) = (eRds l).take (i * 2) ++ [sB r.1, sI r.2] ++ (eRds l).drop (i * 2 + 2) := by
  induction l with
  | nil => intro i r h; simp at h
  | cons q l ih =>
    intro i r h
    cases i with
    | zero => rfl
    | succ i =>
      rw [show (i + 1) * 2 = i * 2 + 2 by omega]
      simp only [List.set_cons_succ, eRds, List.take_succ_cons, List.drop_succ_cons, List.cons_append]
      rw [ih (i := i) r (by simpa using h)]
theorem eRds_set1 {l : List (Bool × Int)} {i : Nat} {r : Bool × Int} (h : l[i]? = some r) (b : Bool) : eRds (l.set i (b, r.2)) = (eRds l).take (i * 2) ++ [sB b] ++ (eRds l).drop (i * 2 + 1) := by
  have hi := (List.getElem?_eq_some_iff.1 h).1
  obtain ⟨_, h1, _⟩ := eRds_get h
  rw [eRds_set _ hi]
  have hlt := (List.getElem?_eq_some_iff.1 h1).1
  have : (eRds l).drop (i * 2 + 1) = sI r.2 :: (eRds l).drop (i * 2 + 2) := by
    rw [List.drop_eq_getElem_cons hlt, (List.getElem?_eq_some_iff.1 h1).2]
  rw [this]; simp

/-! ### The store -/
structure SnM where
  cells : Int
  now : Int
  lists : Int → Option (List (Int × Int))
  writes : Int → Option Int
  rd : List (Bool × Int)
abbrev mLists (f : Int → Option (List (Int × Int))) : Int → Option Sh := fun k => (f k).map shVl
abbrev mWrites (f : Int → Option Int) : Int → Option Sh := fun k => (f k).map sU
abbrev eSn (s : SnM) : List Sh := sI s.cells :: sI s.now :: .mp 44 (mLists s.lists) :: .mp 44 (mWrites s.writes) :: eRds s.rd
abbrev shSn (s : SnM) : Sh := .agg (eSn s)
def inC (s : SnM) (at_ : Int) : Bool := decide (0 ≤ at_) && decide (at_ < s.cells)
theorem ok_snCell (s : SnM) (x : Int) (h8 : s.rd.length = 8) : Ok 22 [shSn s, sI x] (sB (inC s x)) := by
  refine ok_of_tr Try.func22 tr_snCell rfl ?_
  have hL : (eRds s.rd).length = 16 := by rw [eRds_len]; omega
  have hO := eRds_one s.rd
  unfold inC
  by_cases h1 : 0 ≤ x
  · have e1 : decide (0 ≤ x) = true := decide_eq_true h1
    by_cases h2 : x < s.cells
    · have e2 : decide (x < s.cells) = true := decide_eq_true h2
      unfold evFn sc_snCell rv_snCell
      have F1 := And.intro @h1 (And.intro @h2 (And.intro @hO (And.intro @e1 @e2)))
      refine eS fun K1 hn1 hr1 he1 => ?_
      refine eO fun K2 hk2 => ?_
      refine tL F1 ?_
      refine hk2 _ ?_
      refine hn1 (some ([1, 2], none)) _ ?_
      refine eS fun K3 hn3 hr3 he3 => ?_
      refine eO fun K4 hk4 => ?_
      refine tC 2 F1 ?_
      refine tC 4 F1 ?_
      refine tC 1 F1 ?_
      refine tL F1 ?_
      refine hk4 _ ?_
      refine hn3 (some ([4], none)) _ ?_
      exact sf1 F1
    · have e2 : decide (x < s.cells) = false := decide_eq_false h2
      unfold evFn sc_snCell rv_snCell
      have F1 := And.intro @h1 (And.intro @h2 (And.intro @hO (And.intro @e1 @e2)))
      refine eS fun K1 hn1 hr1 he1 => ?_
      refine eO fun K2 hk2 => ?_
      refine tL F1 ?_
      refine hk2 _ ?_
      refine hn1 (some ([1, 2], none)) _ ?_
      refine eS fun K3 hn3 hr3 he3 => ?_
      refine eO fun K4 hk4 => ?_
      refine tC 2 F1 ?_
      refine tC 4 F1 ?_
      refine tC 1 F1 ?_
      refine tL F1 ?_
      refine hk4 _ ?_
      refine hn3 (some ([4], none)) _ ?_
      exact sf1 F1
  · have e1 : decide (0 ≤ x) = false := decide_eq_false h1
    unfold evFn sc_snCell rv_snCell
    have F1 := And.intro @h1 (And.intro @hO @e1)
    refine eS fun K1 hn1 hr1 he1 => ?_
    refine eO fun K2 hk2 => ?_
    refine tL F1 ?_
    refine hk2 _ ?_
    refine hn1 (some ([1, 2], none)) _ ?_
    refine eS fun K3 hn3 hr3 he3 => ?_
    refine eO fun K4 hk4 => ?_
    refine tC 2 F1 ?_
    refine tC 4 F1 ?_
    refine tC 1 F1 ?_
    refine tL F1 ?_
    refine hk4 _ ?_
    refine hn3 (some ([4], none)) _ ?_
    exact sf1 F1
theorem ok_snNow (s : SnM) : Ok 14 [shSn s] (sI s.now) := by
  refine ok_of_tr Try.func14 tr_snNow rfl ?_
  have hO := eRds_one s.rd
  unfold evFn sc_snNow rv_snNow
  have F1 := @hO
  refine eS fun K1 hn1 hr1 he1 => ?_
  refine eO fun K2 hk2 => ?_
  refine tL F1 ?_
  refine hk2 _ ?_
  refine hn1 (some ([1], none)) _ ?_
  refine eS fun K3 hn3 hr3 he3 => ?_
  refine eO fun K4 hk4 => ?_
  refine tC 2 F1 ?_
  refine tL F1 ?_
  refine hk4 _ ?_
  refine hn3 (some ([2], none)) _ ?_
  exact sf1 F1
end Go.Proofs.Ytijblpkdfmkcfaa
