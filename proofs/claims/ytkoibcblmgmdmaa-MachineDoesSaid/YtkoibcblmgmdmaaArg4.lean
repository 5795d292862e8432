/-
  The arguments of layer 4's laws.
-/
import Derived.Test.YtkoibcblmgmdmaaMC
import Derived.Test.YtkoibcblmgmdmaaK4e
namespace Go.Proofs.Ytkoibcblmgmdmaa
set_option linter.unusedSimpArgs false
set_option linter.unusedVariables false
open Go.ChangeShapes Go.WideShapes Go.ChangeAt Go.RowKit Go.Deep Go.Maps

abbrev plWord : Pl := .cons (.int .i64) (.cons (.int .u32) (.cons (.int .u32) .nil))
abbrev plAct : Pl := .cons (.int .i64) (.cons (.int .i64) (.cons plWord (.cons plWord .nil)))
theorem map_shP {α : Type} {p : Pl} {e : α → List Sh} {Q : α → Prop} (h : ∀ d, OkD p d → ∃ x, shP p d = e x ∧ Q x) : ∀ (xs : List Dt), (∀ x ∈ xs, OkD p x) → ∃ ys : List α, xs.map (fun x => shP p x) = ys.map e ∧ ∀ y ∈ ys, Q y
  | [], _ => ⟨[], rfl, fun y hy => by cases hy⟩
  | x :: xs, hx => by
    obtain ⟨y, h1, h2⟩ := h x (hx x (List.mem_cons_self ..))
    obtain ⟨ys, h3, h4⟩ := map_shP h xs (fun z hz => hx z (List.mem_cons_of_mem _ hz))
    refine ⟨y :: ys, by simp only [List.map_cons, h1, h3], fun z hz => ?_⟩
    rcases List.mem_cons.1 hz with rfl | hz
    · exact h2
    · exact h4 z hz
theorem okd_int {k : IntKind} {d : Dt} (h : OkD (.int k) d) : ∃ n, d = .i n ∧ k.min ≤ n ∧ n ≤ k.max := by
  cases d with
  | i n => exact ⟨n, rfl, h⟩
  | _ => exact h.elim
theorem okd_bool {d : Dt} (h : OkD .bool d) : ∃ b, d = .b b := by
  cases d with
  | b b => exact ⟨b, rfl⟩
  | _ => exact h.elim
theorem okd_sl {k : Nat} {e : Pl} {d : Dt} (h : OkD (.sl k e) d) : ∃ xs, d = .l xs ∧ ∀ x ∈ xs, OkD e x := by
  cases d with
  | l xs => exact ⟨xs, rfl, h⟩
  | _ => exact h.elim
theorem okd_cons {p q : Pl} {d : Dt} (h : OkD (.cons p q) d) : ∃ a b, d = .cons a b ∧ OkD p a ∧ OkD q b := by
  cases d with
  | cons a b => exact ⟨a, b, rfl, h.1, h.2⟩
  | _ => exact h.elim
theorem okd_nil {d : Dt} (h : OkD .nil d) : d = .nil := by
  cases d with
  | nil => rfl
  | _ => exact h.elim
/-- A word as it may come in. -/
def WordIn (w : WordV) : Prop := (-9223372036854775808 ≤ w.val ∧ w.val ≤ 9223372036854775807) ∧ (0 ≤ w.ver ∧ w.ver ≤ 4294967295) ∧ (0 ≤ w.ref ∧ w.ref ≤ 4294967295)
theorem okd_word {d : Dt} (h : OkD plWord d) : ∃ w, shP plWord d = eWord w ∧ WordIn w := by
  obtain ⟨_, _, rfl, h1, h⟩ := okd_cons h
  obtain ⟨_, _, rfl, h2, h⟩ := okd_cons h
  obtain ⟨_, _, rfl, h3, h⟩ := okd_cons h
  obtain rfl := okd_nil h
  obtain ⟨a, rfl, a1⟩ := okd_int h1
  obtain ⟨b, rfl, b1⟩ := okd_int h2
  obtain ⟨c, rfl, c1⟩ := okd_int h3
  exact ⟨⟨a, b, c⟩, rfl, a1, b1, c1⟩
structure ActIn (a : ActM) : Prop where
  op : -9223372036854775808 ≤ a.op ∧ a.op ≤ 9223372036854775807
  place : InLoc a.place
  old : WordIn a.old
  new : WordIn a.new
theorem okd_act {d : Dt} (h : OkD plAct d) : ∃ a, shP plAct d = eAct4 a ∧ ActIn a := by
  obtain ⟨_, _, rfl, h1, h⟩ := okd_cons h
  obtain ⟨_, _, rfl, h2, h⟩ := okd_cons h
  obtain ⟨_, _, rfl, h3, h⟩ := okd_cons h
  obtain ⟨_, _, rfl, h4, h⟩ := okd_cons h
  obtain rfl := okd_nil h
  obtain ⟨a, rfl, a1⟩ := okd_int h1
  obtain ⟨b, rfl, b1⟩ := okd_int h2
  obtain ⟨c, e3, c1⟩ := okd_word h3
  obtain ⟨e, e4, e1⟩ := okd_word h4
  refine ⟨⟨a, b, c, e⟩, ?_, ⟨a1, b1, c1, e1⟩⟩
  show [sI a] ++ ([sI b] ++ (shP plWord _ ++ (shP plWord _ ++ []))) = _
  rw [e3, e4]; rfl
structure DoIn (d : DoV) : Prop where
  act : ActIn d.act
end Go.Proofs.Ytkoibcblmgmdmaa
