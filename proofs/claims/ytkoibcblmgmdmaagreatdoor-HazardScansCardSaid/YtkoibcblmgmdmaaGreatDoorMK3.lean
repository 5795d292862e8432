/-
  The arguments of layer 4's laws.
  The arguments of layer 14's laws.
-/
import Derived.Test.YtkoibcblmgmdmaaGreatDoorMC
import Derived.Test.YtkoibcblmgmdmaaGreatDoorK4e
import Derived.Test.YtkoibcblmgmdmaaGreatDoorK14b
namespace Go.Proofs.YtkoibcblmgmdmaaGreatDoor
set_option linter.unusedSimpArgs false
set_option linter.unusedVariables false
open Go.ChangeShapes Go.WideShapes Go.ChangeAt Go.RowKit Go.Deep Go.Maps
theorem map_shP {α : Type} {p : Pl} {e : α → List Sh} {Q : α → Prop} (h : ∀ d, OkD p d → ∃ x, shP p d = e x ∧ Q x) : ∀ (xs : List Dt), (∀ x ∈ xs, OkD p x) → ∃ ys : List α, xs.map (fun x => shP p x) = ys.map e ∧ ∀ y ∈ ys, Q y
  | [], _ => ⟨[], rfl, fun y hy => by cases hy⟩
  | x :: xs, hx => by
    obtain ⟨y, h1, h2⟩ := h x (hx x (List.mem_cons_self ..))
    obtain ⟨ys, h3, h4⟩ := map_shP h xs (fun z hz => hx z (List.mem_cons_of_mem _ hz))
    refine ⟨y :: ys, by simp only [List.map_cons, h1, h3], fun z hz => ?_⟩
    rcases List.mem_cons.1 hz with rfl | hz
    · exact h2
    · exact h4 z hz
theorem okd_int {k : IntKind} {d : Dt} (h : OkD (.int k) d) : ∃ n, d = .i n ∧ k.min ≤ n ∧ n ≤ k.max := by
  cases d with
  | i n => exact ⟨n, rfl, h⟩
  | _ => exact h.elim
theorem okd_sl {k : Nat} {e : Pl} {d : Dt} (h : OkD (.sl k e) d) : ∃ xs, d = .l xs ∧ ∀ x ∈ xs, OkD e x := by
  cases d with
  | l xs => exact ⟨xs, rfl, h⟩
  | _ => exact h.elim
theorem okd_cons {p q : Pl} {d : Dt} (h : OkD (.cons p q) d) : ∃ a b, d = .cons a b ∧ OkD p a ∧ OkD q b := by
  cases d with
  | cons a b => exact ⟨a, b, rfl, h.1, h.2⟩
  | _ => exact h.elim
theorem okd_nil {d : Dt} (h : OkD .nil d) : d = .nil := by
  cases d with
  | nil => rfl
  | _ => exact h.elim
def WordIn (w : WordV) : Prop := (-9223372036854775808 ≤ w.val ∧ w.val ≤ 9223372036854775807) ∧ (0 ≤ w.ver ∧ w.ver ≤ 4294967295) ∧ (0 ≤ w.ref ∧ w.ref ≤ 4294967295)
structure ActIn (a : ActM) : Prop where
  op : -9223372036854775808 ≤ a.op ∧ a.op ≤ 9223372036854775807
  place : InLoc a.place
  old : WordIn a.old
  new : WordIn a.new
structure DoIn (d : DoV) : Prop where
  act : ActIn d.act
end Go.Proofs.YtkoibcblmgmdmaaGreatDoor
namespace Go.Proofs.YtkoibcblmgmdmaaGreatDoor
set_option linter.unusedSimpArgs false
set_option linter.unusedVariables false
open Go.ChangeShapes Go.WideShapes Go.ChangeAt Go.RowKit Go.Deep Go.Maps
abbrev plI2 : Pl := .cons (.int .i64) (.cons (.int .i64) .nil)
abbrev plI3 : Pl := .cons (.int .i64) (.cons (.int .i64) (.cons (.int .i64) .nil))
abbrev plDoH : Pl := .cons (.int .u8) (.cons (.int .u8) (.cons (.int .i64) .nil))
abbrev plPick : Pl := .cons (.int .i64) (.cons (.int .i64) (.cons (.int .i64) .nil))
abbrev plRun14 : Pl := .cons plI2 (.cons plI3 (.cons (.cons plDoH (.cons plDoH (.cons plDoH .nil))) (.cons (.sl 3 plPick) .nil)))
theorem pl_run14 : planOf Tryz.prog 8 29 = some plRun14 := by kernel_rfl
theorem okd_pick {d : Dt} (h : OkD plPick d) : ∃ x, shP plPick d = ePick x := by
  obtain ⟨_, _, rfl, h1, h⟩ := okd_cons h
  obtain ⟨_, _, rfl, h2, h⟩ := okd_cons h
  obtain ⟨_, _, rfl, h3, h⟩ := okd_cons h
  obtain rfl := okd_nil h
  obtain ⟨a, rfl, a1⟩ := okd_int h1
  obtain ⟨b, rfl, b1⟩ := okd_int h2
  obtain ⟨c, rfl, c1⟩ := okd_int h3
  exact ⟨⟨a, b, c⟩, rfl⟩
theorem okd_picks {d : Dt} (h : OkD (.sl 3 plPick) d) : ∃ ps : List PickV, shP (.sl 3 plPick) d = [.sl 3 2 (ps.map ePick)] ∧ True := by
  obtain ⟨xs, rfl, b1⟩ := okd_sl h
  obtain ⟨ws, e2, b2⟩ := map_shP (Q := fun _ => True) (fun d h => by obtain ⟨x, hx⟩ := okd_pick h; exact ⟨x, hx, trivial⟩) xs b1
  exact ⟨ws, by show [Sh.sl 3 2 (xs.map fun x => shP plPick x)] = _; rw [e2], trivial⟩
structure Run14 where
  a : Int
  b : Int
  h0 : Int
  h1 : Int
  h2 : Int
  d0 : DoH
  d1 : DoH
  d2 : DoH
  picks : List PickV
abbrev cRun14 (r : Run14) : List Sh := [sI r.a, sI r.b, sI r.h0, sI r.h1, sI r.h2, s8h r.d0.kind, s8h r.d0.cell, sI r.d0.n, s8h r.d1.kind, s8h r.d1.cell, sI r.d1.n, s8h r.d2.kind, s8h r.d2.cell, sI r.d2.n, .sl 3 2 (r.picks.map ePick)]
structure Run14In (r : Run14) : Prop where
  d0 : DoInH r.d0
  d1 : DoInH r.d1
  d2 : DoInH r.d2
theorem okd_doH {d : Dt} (h : OkD plDoH d) : ∃ x, shP plDoH d = eDoH x ∧ DoInH x := by
  obtain ⟨_, _, rfl, h1, h⟩ := okd_cons h
  obtain ⟨_, _, rfl, h2, h⟩ := okd_cons h
  obtain ⟨_, _, rfl, h3, h⟩ := okd_cons h
  obtain rfl := okd_nil h
  obtain ⟨a, rfl, a1⟩ := okd_int h1
  obtain ⟨b, rfl, b1⟩ := okd_int h2
  obtain ⟨c, rfl, c1⟩ := okd_int h3
  exact ⟨⟨a, b, c⟩, rfl, a1, b1⟩
theorem okd_run14 {d : Dt} (h : OkD plRun14 d) : ∃ r : Run14, shP plRun14 d = cRun14 r ∧ Run14In r := by
  obtain ⟨c, _, rfl, hc, h⟩ := okd_cons h
  obtain ⟨z, _, rfl, hz, h⟩ := okd_cons h
  obtain ⟨o, _, rfl, ho, h⟩ := okd_cons h
  obtain ⟨p, _, rfl, hp, h⟩ := okd_cons h
  obtain rfl := okd_nil h
  obtain ⟨_, _, rfl, c1, hc⟩ := okd_cons hc
  obtain ⟨_, _, rfl, c2, hc⟩ := okd_cons hc
  obtain rfl := okd_nil hc
  obtain ⟨a, rfl, _⟩ := okd_int c1
  obtain ⟨b, rfl, _⟩ := okd_int c2
  obtain ⟨_, _, rfl, z1, hz⟩ := okd_cons hz
  obtain ⟨_, _, rfl, z2, hz⟩ := okd_cons hz
  obtain ⟨_, _, rfl, z3, hz⟩ := okd_cons hz
  obtain rfl := okd_nil hz
  obtain ⟨h0, rfl, _⟩ := okd_int z1
  obtain ⟨h1, rfl, _⟩ := okd_int z2
  obtain ⟨h2, rfl, _⟩ := okd_int z3
  obtain ⟨o1, _, rfl, q1, ho⟩ := okd_cons ho
  obtain ⟨o2, _, rfl, q2, ho⟩ := okd_cons ho
  obtain ⟨o3, _, rfl, q3, ho⟩ := okd_cons ho
  obtain rfl := okd_nil ho
  obtain ⟨d0, e0, i0⟩ := okd_doH q1
  obtain ⟨d1, e1, i1⟩ := okd_doH q2
  obtain ⟨d2, e2, i2⟩ := okd_doH q3
  obtain ⟨ps, ep, _⟩ := okd_picks hp
  refine ⟨⟨a, b, h0, h1, h2, d0, d1, d2, ps⟩, ?_, i0, i1, i2⟩
  show [sI a, sI b] ++ ([sI h0, sI h1, sI h2] ++ ((shP plDoH o1 ++ (shP plDoH o2 ++ (shP plDoH o3 ++ []))) ++ (shP (.sl 3 plPick) p ++ []))) = _
  rw [e0, e1, e2, ep]
  rfl
end Go.Proofs.YtkoibcblmgmdmaaGreatDoor
