/-
  The arguments of layer 8's laws.
-/
import Derived.Test.YtcbdgnjdpfgobaaArg4
import Derived.Test.YtcbdgnjdpfgobaaK8f
namespace Go.Proofs.Ytcbdgnjdpfgobaa
set_option linter.unusedSimpArgs false
set_option linter.unusedVariables false
open Go.ChangeShapes Go.WideShapes Go.ChangeAt Go.RowKit Go.Deep Go.Maps

abbrev plPick : Pl := .cons (.int .i64) (.cons (.int .i64) (.cons (.int .i64) .nil))
abbrev plGot : Pl := .cons plWord (.cons .bool .nil)
theorem pl_u8 : planOf Try.prog 8 5 = some (.int .u8) := by kernel_rfl
theorem pl_acts : planOf Try.prog 8 74 = some (.sl 1 (.sl 8 plAct)) := by kernel_rfl
theorem pl_acts1 : planOf Try.prog 8 41 = some (.sl 8 plAct) := by kernel_rfl
theorem pl_gots : planOf Try.prog 8 42 = some (.sl 4 plGot) := by kernel_rfl
theorem pl_picks : planOf Try.prog 8 75 = some (.sl 3 plPick) := by kernel_rfl
structure PickIn (p : PickV) : Prop where
  kind : -9223372036854775808 ≤ p.kind ∧ p.kind ≤ 9223372036854775807
  thread : -9223372036854775808 ≤ p.thread ∧ p.thread ≤ 9223372036854775807
theorem okd_pick {d : Dt} (h : OkD plPick d) : ∃ x, shP plPick d = ePick x ∧ PickIn x := by
  obtain ⟨_, _, rfl, h1, h⟩ := okd_cons h
  obtain ⟨_, _, rfl, h2, h⟩ := okd_cons h
  obtain ⟨_, _, rfl, h3, h⟩ := okd_cons h
  obtain rfl := okd_nil h
  obtain ⟨a, rfl, a1⟩ := okd_int h1
  obtain ⟨b, rfl, b1⟩ := okd_int h2
  obtain ⟨c, rfl, c1⟩ := okd_int h3
  exact ⟨⟨a, b, c⟩, rfl, a1, b1⟩
theorem okd_got {d : Dt} (h : OkD plGot d) : ∃ x, shP plGot d = eGot x ∧ WordIn x.word := by
  obtain ⟨_, _, rfl, h1, h⟩ := okd_cons h
  obtain ⟨_, _, rfl, h2, h⟩ := okd_cons h
  obtain rfl := okd_nil h
  obtain ⟨a, e1, a1⟩ := okd_word h1
  obtain ⟨b, rfl⟩ := okd_bool h2
  refine ⟨⟨a, b⟩, ?_, a1⟩
  show shP plWord _ ++ ([sB b] ++ []) = _
  rw [e1]; rfl
theorem okd_picks {d : Dt} (h : OkD (.sl 3 plPick) d) : ∃ ps : List PickV, shP (.sl 3 plPick) d = [.sl 3 2 (ps.map ePick)] ∧ ∀ p ∈ ps, PickIn p := by
  obtain ⟨xs, rfl, b1⟩ := okd_sl h
  obtain ⟨ws, e2, b2⟩ := map_shP (fun d h => okd_pick h) xs b1
  exact ⟨ws, by show [Sh.sl 3 2 (xs.map fun x => shP plPick x)] = _; rw [e2], b2⟩
theorem okd_gots {d : Dt} (h : OkD (.sl 4 plGot) d) : ∃ ps : List GotV, shP (.sl 4 plGot) d = [.sl 4 2 (ps.map eGot)] ∧ ∀ p ∈ ps, WordIn p.word := by
  obtain ⟨xs, rfl, b1⟩ := okd_sl h
  obtain ⟨ws, e2, b2⟩ := map_shP (fun d h => okd_got h) xs b1
  exact ⟨ws, by show [Sh.sl 4 2 (xs.map fun x => shP plGot x)] = _; rw [e2], b2⟩
theorem okd_acts1 {d : Dt} (h : OkD (.sl 8 plAct) d) : ∃ ps : List ActM, shP (.sl 8 plAct) d = eA1 ps ∧ ∀ p ∈ ps, ActIn p := by
  obtain ⟨xs, rfl, b1⟩ := okd_sl h
  obtain ⟨ws, e2, b2⟩ := map_shP (fun d h => okd_act h) xs b1
  exact ⟨ws, by show [Sh.sl 8 2 (xs.map fun x => shP plAct x)] = _; rw [e2], b2⟩
theorem okd_acts {d : Dt} (h : OkD (.sl 1 (.sl 8 plAct)) d) : ∃ l : List (List ActM), shP (.sl 1 (.sl 8 plAct)) d = [.sl 1 2 (l.map eA1)] ∧ ∀ a ∈ l, ∀ p ∈ a, ActIn p := by
  obtain ⟨xs, rfl, b1⟩ := okd_sl h
  obtain ⟨ws, e2, b2⟩ := map_shP (fun d h => okd_acts1 h) xs b1
  exact ⟨ws, by show [Sh.sl 1 2 (xs.map fun x => shP (.sl 8 plAct) x)] = _; rw [e2], b2⟩
theorem repL_len {H : Hp} {E : Env} : ∀ {cs : List Sh} {vs : List Value} {k g : Nat} {es : List (List Sh)}, RepL H E cs vs → .sl k g es ∈ cs → es.length ≤ maxLen
  | _, _, _, _, _, .nil, h => by cases h
  | _, _, k, g, es, .cons (x := x) hx ht, h => by
    rcases List.mem_cons.1 h with e | h
    · subst e
      cases hx with
      | sl a b c d _ _ _ => omega
    · exact repL_len ht h
theorem ok_slen {f : FuncId} {args : List Sh} {r : Sh} (k g : Nat) (es : List (List Sh)) (hm : Sh.sl k g es ∈ args) (h : es.length ≤ maxLen → Ok f args r) : Ok f args r :=
  fun w H vs hs hv => h (repL_len hv hm) w H vs hs hv
section
variable {H : Type} {enc : TypeId × Value → H} {P : Program} {W : World} {base : Nat} {spare : Nat → Bool} {held : Bool}
/-- An array argument. -/
theorem argArray {t e : TypeId} {n : Nat} {v : Value} {d : DataW H} {ps : List MemPlace} {r : Reach} {b0 m : Nat} {p : Pl} (hu : P.underlying t = some (.array n e)) (hk : planOf P m t = some p)
    (hval : Value.okWide P W r b0 t v) (hd : DataW.Trod enc P W base spare held t v d ps) : ∃ q, OkD p q ∧ Rep (allHp W) E0 (.agg (shP p q)) v := by
  obtain ⟨cs, rfl⟩ : ∃ cs, v = .agg cs := by
    unfold Value.okWide at hval
    rw [hu] at hval
    obtain ⟨cs, h, _⟩ := hval
    exact ⟨cs, h⟩
  obtain ⟨fuel, hf⟩ := hd
  obtain ⟨q, q1, q2, q3⟩ := planOf_good m t p fuel _ _ hk hf
  exact ⟨q, q1, by have := Rep.agg q2 q3; simpa [Value.cells] using this⟩
end
theorem pl_arint2 : planOf Try.prog 8 87 = some (.cons (.int .i64) (.cons (.int .i64) .nil)) := by kernel_rfl
theorem okd_arint2 {d : Dt} (h : OkD (.cons (.int .i64) (.cons (.int .i64) .nil)) d) : ∃ x : Int × Int, shP (.cons (.int .i64) (.cons (.int .i64) .nil)) d = [sI x.1, sI x.2] ∧ (-9223372036854775808 ≤ x.1 ∧ x.1 ≤ 9223372036854775807) ∧ -9223372036854775808 ≤ x.2 ∧ x.2 ≤ 9223372036854775807 := by
  obtain ⟨_, _, rfl, h1, h⟩ := okd_cons h
  obtain ⟨_, _, rfl, h2, h⟩ := okd_cons h
  obtain rfl := okd_nil h
  obtain ⟨a, rfl, a1⟩ := okd_int h1
  obtain ⟨b, rfl, b1⟩ := okd_int h2
  exact ⟨(a, b), rfl, a1, b1⟩
end Go.Proofs.Ytcbdgnjdpfgobaa
