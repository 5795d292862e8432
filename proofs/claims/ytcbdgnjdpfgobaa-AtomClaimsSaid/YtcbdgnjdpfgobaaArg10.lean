/-
  The arguments of layer 10's laws.
-/
import Derived.Test.YtcbdgnjdpfgobaaArg4
import Derived.Test.YtcbdgnjdpfgobaaK10b
namespace Go.Proofs.Ytcbdgnjdpfgobaa
set_option linter.unusedSimpArgs false
set_option linter.unusedVariables false
open Go.ChangeShapes Go.WideShapes Go.ChangeAt Go.RowKit Go.Deep Go.Maps

abbrev plPick : Pl := .cons (.int .i64) (.cons (.int .i64) (.cons (.int .i64) .nil))
abbrev plOp : Pl := .cons (.int .i64) (.cons (.int .i64) (.cons (.int .i64) .nil))
abbrev plRun : Pl := .cons (.cons plWord (.cons plWord .nil)) (.cons (.sl 3 plOp) (.cons (.sl 3 plPick) .nil))
abbrev plI3 : Pl := .cons (.int .i64) (.cons (.int .i64) (.cons (.int .i64) .nil))
theorem pl_picks : planOf Try.prog 8 75 = some (.sl 3 plPick) := by kernel_rfl
theorem pl_op : planOf Try.prog 8 99 = some plOp := by kernel_rfl
theorem pl_run : planOf Try.prog 8 94 = some plRun := by kernel_rfl
theorem pl_word : planOf Try.prog 8 39 = some plWord := by kernel_rfl
theorem pl_int64 : planOf Try.prog 8 2 = some (.int .i64) := by kernel_rfl
theorem pl_i3 : planOf Try.prog 8 119 = some plI3 := by kernel_rfl
def In64 (n : Int) : Prop := -9223372036854775808 ≤ n ∧ n ≤ 9223372036854775807
structure PickIn (p : PickV) : Prop where
  kind : -9223372036854775808 ≤ p.kind ∧ p.kind ≤ 9223372036854775807
  thread : -9223372036854775808 ≤ p.thread ∧ p.thread ≤ 9223372036854775807
theorem okd_pick {d : Dt} (h : OkD plPick d) : ∃ x, shP plPick d = ePick x ∧ PickIn x := by
  obtain ⟨_, _, rfl, h1, h⟩ := okd_cons h
  obtain ⟨_, _, rfl, h2, h⟩ := okd_cons h
  obtain ⟨_, _, rfl, h3, h⟩ := okd_cons h
  obtain rfl := okd_nil h
  obtain ⟨a, rfl, a1⟩ := okd_int h1
  obtain ⟨b, rfl, b1⟩ := okd_int h2
  obtain ⟨c, rfl, c1⟩ := okd_int h3
  exact ⟨⟨a, b, c⟩, rfl, a1, b1⟩
theorem okd_picks {d : Dt} (h : OkD (.sl 3 plPick) d) : ∃ ps : List PickV, shP (.sl 3 plPick) d = [.sl 3 2 (ps.map ePick)] ∧ ∀ p ∈ ps, PickIn p := by
  obtain ⟨xs, rfl, b1⟩ := okd_sl h
  obtain ⟨ws, e2, b2⟩ := map_shP (fun d h => okd_pick h) xs b1
  exact ⟨ws, by show [Sh.sl 3 2 (xs.map fun x => shP plPick x)] = _; rw [e2], b2⟩
theorem repL_len {H : Hp} {E : Env} : ∀ {cs : List Sh} {vs : List Value} {k g : Nat} {es : List (List Sh)}, RepL H E cs vs → .sl k g es ∈ cs → es.length ≤ maxLen
  | _, _, _, _, _, .nil, h => by cases h
  | _, _, k, g, es, .cons (x := x) hx ht, h => by
    rcases List.mem_cons.1 h with e | h
    · subst e
      cases hx with
      | sl a b c d _ _ _ => omega
    · exact repL_len ht h
theorem ok_slen {f : FuncId} {args : List Sh} {r : Sh} (k g : Nat) (es : List (List Sh)) (hm : Sh.sl k g es ∈ args) (h : es.length ≤ maxLen → Ok f args r) : Ok f args r :=
  fun w H vs hs hv => h (repL_len hv hm) w H vs hs hv
section
variable {H : Type} {enc : TypeId × Value → H} {P : Program} {W : World} {base : Nat} {spare : Nat → Bool} {held : Bool}
/-- An array argument. -/
theorem argArray {t e : TypeId} {n : Nat} {v : Value} {d : DataW H} {ps : List MemPlace} {r : Reach} {b0 m : Nat} {p : Pl} (hu : P.underlying t = some (.array n e)) (hk : planOf P m t = some p)
    (hval : Value.okWide P W r b0 t v) (hd : DataW.Trod enc P W base spare held t v d ps) : ∃ q, OkD p q ∧ Rep (allHp W) E0 (.agg (shP p q)) v := by
  obtain ⟨cs, rfl⟩ : ∃ cs, v = .agg cs := by
    unfold Value.okWide at hval
    rw [hu] at hval
    obtain ⟨cs, h, _⟩ := hval
    exact ⟨cs, h⟩
  obtain ⟨fuel, hf⟩ := hd
  obtain ⟨q, q1, q2, q3⟩ := planOf_good m t p fuel _ _ hk hf
  exact ⟨q, q1, by have := Rep.agg q2 q3; simpa [Value.cells] using this⟩
end
structure OpIn (o : OpV) : Prop where
  n : In64 o.n
theorem okd_op {d : Dt} (h : OkD plOp d) : ∃ x, shP plOp d = eOp x ∧ OpIn x := by
  obtain ⟨_, _, rfl, h1, h⟩ := okd_cons h
  obtain ⟨_, _, rfl, h2, h⟩ := okd_cons h
  obtain ⟨_, _, rfl, h3, h⟩ := okd_cons h
  obtain rfl := okd_nil h
  obtain ⟨a, rfl, a1⟩ := okd_int h1
  obtain ⟨b, rfl, b1⟩ := okd_int h2
  obtain ⟨c, rfl, c1⟩ := okd_int h3
  exact ⟨⟨a, b, c⟩, rfl, ⟨c1⟩⟩
theorem okd_i3 {d : Dt} (h : OkD plI3 d) : ∃ x : Int × Int × Int, shP plI3 d = [sI x.1, sI x.2.1, sI x.2.2] ∧ In64 x.1 ∧ In64 x.2.1 ∧ In64 x.2.2 := by
  obtain ⟨_, _, rfl, h1, h⟩ := okd_cons h
  obtain ⟨_, _, rfl, h2, h⟩ := okd_cons h
  obtain ⟨_, _, rfl, h3, h⟩ := okd_cons h
  obtain rfl := okd_nil h
  obtain ⟨a, rfl, a1⟩ := okd_int h1
  obtain ⟨b, rfl, b1⟩ := okd_int h2
  obtain ⟨c, rfl, c1⟩ := okd_int h3
  exact ⟨(a, b, c), rfl, a1, b1, c1⟩
structure RunIn (r : RunV) : Prop where
  w0 : WordIn r.w0
  w1 : WordIn r.w1
  ops : ∀ o ∈ r.ops, OpIn o
theorem okd_run {d : Dt} (h : OkD plRun d) : ∃ x, shP plRun d = cRun x ∧ RunIn x := by
  obtain ⟨_, _, rfl, h0, h⟩ := okd_cons h
  obtain ⟨_, _, rfl, h3, h⟩ := okd_cons h
  obtain ⟨_, _, rfl, h4, h⟩ := okd_cons h
  obtain rfl := okd_nil h
  obtain ⟨_, _, rfl, h1, h0⟩ := okd_cons h0
  obtain ⟨_, _, rfl, h2, h0⟩ := okd_cons h0
  obtain rfl := okd_nil h0
  obtain ⟨a, e1, a1⟩ := okd_word h1
  obtain ⟨b, e2, b1⟩ := okd_word h2
  obtain ⟨xs, rfl, c1⟩ := okd_sl h3
  obtain ⟨l, e3, c2⟩ := map_shP (fun d h => okd_op h) xs c1
  obtain ⟨ps, e4, _⟩ := okd_picks h4
  refine ⟨⟨a, b, 2, l, 2, ps⟩, ?_, a1, b1, c2⟩
  show (shP plWord _ ++ (shP plWord _ ++ [])) ++ ([Sh.sl 3 2 (xs.map fun x => shP plOp x)] ++ (shP (.sl 3 plPick) _ ++ [])) = _
  rw [e1, e2, e3, e4]; rfl
end Go.Proofs.Ytcbdgnjdpfgobaa
