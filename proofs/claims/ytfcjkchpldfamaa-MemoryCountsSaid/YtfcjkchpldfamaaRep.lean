/-
  Arguments of a law, opened as shadows.
-/
import Derived.Test.YtfcjkchpldfamaaShI
import Derived.Test.YtfcjkchpldfamaaOwn
namespace Go.Proofs.Ytfcjkchpldfamaa
set_option linter.unusedSimpArgs false
set_option linter.unusedVariables false
open Go.ChangeShapes Go.WideShapes Go.ChangeAt Go.RowKit Go.Deep Go.Maps

/-- Cells that read as x, by enc. -/
def EncR {α : Type} (enc : α → List Sh) (Q : α → Prop) : Elt α := fun H cs x => RepL H E0 (enc x) cs ∧ (enc x).all Sh.one = true ∧ Q x

theorem flat_rep {α : Type} {enc : α → List Sh} {Q : α → Prop} {k : Nat} {H : Hp} : ∀ (l : List α) (xs : List Value), FlatR k (EncR enc Q) H xs l → RepEs H k (l.map enc) xs ∧ ∀ x ∈ l, Q x
  | [], xs, h => by
    obtain ⟨h1, _⟩ := h
    obtain rfl : xs = [] := List.eq_nil_of_length_eq_zero (by simpa using h1)
    exact ⟨.nil, fun x hx => by cases hx⟩
  | x :: l, xs, h => by
    obtain ⟨h1, h2⟩ := h
    simp only [List.length_cons, Nat.add_mul, Nat.one_mul] at h1
    have h0 := h2 0 x rfl
    simp only [Nat.zero_mul, List.drop_zero] at h0
    have ht : FlatR k (EncR enc Q) H (xs.drop k) l := ⟨by rw [List.length_drop]; omega, fun i y hy => by
      have := h2 (i + 1) y (by simpa using hy)
      rw [List.drop_drop, show k + i * k = (i + 1) * k from by rw [Nat.add_mul]; omega]
      exact this⟩
    obtain ⟨r1, r2⟩ := flat_rep l _ ht
    refine ⟨?_, fun y hy => ?_⟩
    · have := RepEs.cons h0.1 (by rw [List.length_take]; omega) h0.2.1 r1
      rw [List.take_append_drop] at this
      exact this
    · rcases List.mem_cons.1 hy with rfl | hy
      · exact h0.2.2
      · exact r2 y hy

theorem slice_rep {α : Type} {enc : α → List Sh} {Q : α → Prop} {k : Nat} {H : Hp} {a : Option Addr} {n c : Nat} {l : List α} (h : SlR k (EncR enc Q) H a n c l) (hc : c ≤ maxLen) : Rep H E0 (.sl k 2 (l.map enc)) (.slice a n c) ∧ ∀ x ∈ l, Q x := by
  obtain ⟨xs, h1, h2, h3, h4, _, h6⟩ := h
  obtain ⟨r1, r2⟩ := flat_rep l xs h4
  exact ⟨.sl r1 (by rw [List.length_map]; exact h1) h2 hc ⟨(fun e => absurd e (by decide)), (fun e => absurd e (by decide))⟩ h3 h6, r2⟩
theorem rep_int {H : Hp} {E : Env} (k : IntKind) (n : Int) : Rep H E (.v (.int k n)) (.int k n) := .v rfl

/-- A law that is told true, as the frame wants it. -/
theorem retv_of_ok {f : FuncId} {args : List Sh} {vs : List Value} {W : World} {b : Bool} (h : Ok f args (.v (.bool b))) (hv : RepL (allHp W) E0 args vs) : RetV Try.prog f vs.toArray W (.bool b) := by
  refine Calls.mono (h W (allHp W) vs (allSub W) hv) ?_
  rintro e w' ⟨v, H', rfl, hg, hr⟩
  cases hr
  exact retv_mk hg.below
end Go.Proofs.Ytfcjkchpldfamaa
