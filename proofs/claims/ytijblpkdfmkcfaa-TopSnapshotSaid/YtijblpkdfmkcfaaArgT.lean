/-
  The arguments of TopSnapshot.
-/
import Derived.Test.YtijblpkdfmkcfaaMC
import Derived.Test.YtijblpkdfmkcfaaKTv
namespace Go.Proofs.Ytijblpkdfmkcfaa
set_option linter.unusedSimpArgs false
set_option linter.unusedVariables false
open Go.ChangeShapes Go.WideShapes Go.ChangeAt Go.RowKit Go.Deep Go.Maps

theorem map_shP {α : Type} {p : Pl} {e : α → List Sh} {Q : α → Prop} (h : ∀ d, OkD p d → ∃ x, shP p d = e x ∧ Q x) : ∀ (xs : List Dt), (∀ x ∈ xs, OkD p x) → ∃ ys : List α, xs.map (fun x => shP p x) = ys.map e ∧ ∀ y ∈ ys, Q y
  | [], _ => ⟨[], rfl, fun y hy => by cases hy⟩
  | x :: xs, hx => by
    obtain ⟨y, h1, h2⟩ := h x (hx x (List.mem_cons_self ..))
    obtain ⟨ys, h3, h4⟩ := map_shP h xs (fun z hz => hx z (List.mem_cons_of_mem _ hz))
    refine ⟨y :: ys, by simp only [List.map_cons, h1, h3], fun z hz => ?_⟩
    rcases List.mem_cons.1 hz with rfl | hz
    · exact h2
    · exact h4 z hz
theorem okd_int {k : IntKind} {d : Dt} (h : OkD (.int k) d) : ∃ n, d = .i n ∧ k.min ≤ n ∧ n ≤ k.max := by
  cases d with
  | i n => exact ⟨n, rfl, h⟩
  | _ => exact h.elim
theorem okd_bool {d : Dt} (h : OkD .bool d) : ∃ b, d = .b b := by
  cases d with
  | b b => exact ⟨b, rfl⟩
  | _ => exact h.elim
theorem okd_sl {k : Nat} {e : Pl} {d : Dt} (h : OkD (.sl k e) d) : ∃ xs, d = .l xs ∧ ∀ x ∈ xs, OkD e x := by
  cases d with
  | l xs => exact ⟨xs, rfl, h⟩
  | _ => exact h.elim
theorem okd_cons {p q : Pl} {d : Dt} (h : OkD (.cons p q) d) : ∃ a b, d = .cons a b ∧ OkD p a ∧ OkD q b := by
  cases d with
  | cons a b => exact ⟨a, b, rfl, h.1, h.2⟩
  | _ => exact h.elim
theorem okd_nil {d : Dt} (h : OkD .nil d) : d = .nil := by
  cases d with
  | nil => rfl
  | _ => exact h.elim
abbrev plSnAct : Pl := .cons (.int .u8) (.cons (.int .u8) (.cons (.int .u8) (.cons (.int .u8) (.cons (.int .i64) (.cons .bool .nil)))))
theorem pl_snacts : planOf Try.prog 8 22 = some (.sl 6 plSnAct) := by kernel_rfl
theorem okd_snact {d : Dt} (h : OkD plSnAct d) : ∃ x, shP plSnAct d = eAct x ∧ ActOk x := by
  obtain ⟨_, _, rfl, h1, h⟩ := okd_cons h
  obtain ⟨_, _, rfl, h2, h⟩ := okd_cons h
  obtain ⟨_, _, rfl, h3, h⟩ := okd_cons h
  obtain ⟨_, _, rfl, h4, h⟩ := okd_cons h
  obtain ⟨_, _, rfl, h5, h⟩ := okd_cons h
  obtain ⟨_, _, rfl, h6, h⟩ := okd_cons h
  obtain rfl := okd_nil h
  obtain ⟨a, rfl, a1⟩ := okd_int h1
  obtain ⟨b, rfl, b1⟩ := okd_int h2
  obtain ⟨c, rfl, c1⟩ := okd_int h3
  obtain ⟨d, rfl, d1⟩ := okd_int h4
  obtain ⟨e, rfl, _⟩ := okd_int h5
  obtain ⟨f, rfl⟩ := okd_bool h6
  exact ⟨⟨a, b, c, d, e, f⟩, rfl, a1, b1, c1, d1⟩
theorem okd_snacts {d : Dt} (h : OkD (.sl 6 plSnAct) d) : ∃ l : List ActT, shP (.sl 6 plSnAct) d = [.sl 6 2 (l.map eAct)] ∧ ∀ x ∈ l, ActOk x := by
  obtain ⟨xs, rfl, b1⟩ := okd_sl h
  obtain ⟨ws, e2, b2⟩ := map_shP (fun d h => okd_snact h) xs b1
  exact ⟨ws, by show [Sh.sl 6 2 (xs.map fun x => shP plSnAct x)] = _; rw [e2], b2⟩
end Go.Proofs.Ytijblpkdfmkcfaa
