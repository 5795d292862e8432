/-
  The arguments of layer 6's laws.
-/
import Derived.Test.YtkoibcblmgmdmaaArg4
import Derived.Test.YtkoibcblmgmdmaaK6c
namespace Go.Proofs.Ytkoibcblmgmdmaa
set_option linter.unusedSimpArgs false
set_option linter.unusedVariables false
open Go.ChangeShapes Go.WideShapes Go.ChangeAt Go.RowKit Go.Deep Go.Maps

abbrev plDeed : Pl := .cons .bool (.cons (.int .i64) (.cons plAct (.cons (.int .i64) .nil)))
theorem pl_words : planOf Try.prog 8 22 = some (.sl 3 plWord) := by kernel_rfl
theorem pl_deeds : planOf Try.prog 8 23 = some (.sl 11 plDeed) := by kernel_rfl
theorem pl_deed : planOf Try.prog 8 31 = some plDeed := by kernel_rfl
theorem pl_u8' : planOf Try.prog 8 5 = some (.int .u8) := by kernel_rfl
structure DeedIn (d : DeedV) : Prop where
  act : ActIn d.act
theorem okd_deed {d : Dt} (h : OkD plDeed d) : ∃ x, shP plDeed d = eDeed x ∧ DeedIn x := by
  obtain ⟨_, _, rfl, h0, h⟩ := okd_cons h
  obtain ⟨_, _, rfl, h1, h⟩ := okd_cons h
  obtain ⟨_, _, rfl, h2, h⟩ := okd_cons h
  obtain ⟨_, _, rfl, h3, h⟩ := okd_cons h
  obtain rfl := okd_nil h
  obtain ⟨z, rfl⟩ := okd_bool h0
  obtain ⟨a, rfl, a1⟩ := okd_int h1
  obtain ⟨b, e2, b1⟩ := okd_act h2
  obtain ⟨c, rfl, c1⟩ := okd_int h3
  refine ⟨⟨z, a, b, c⟩, ?_, ⟨b1⟩⟩
  show [sB z] ++ ([sI a] ++ (shP plAct _ ++ ([sI c] ++ []))) = _
  rw [e2]; rfl
theorem okd_words {d : Dt} (h : OkD (.sl 3 plWord) d) : ∃ ws : List WordV, shP (.sl 3 plWord) d = [.sl 3 2 (ws.map eWord)] ∧ ∀ w ∈ ws, WordIn w := by
  obtain ⟨xs, rfl, b1⟩ := okd_sl h
  obtain ⟨ws, e2, b2⟩ := map_shP (fun d h => okd_word h) xs b1
  exact ⟨ws, by show [Sh.sl 3 2 (xs.map fun x => shP plWord x)] = _; rw [e2], b2⟩
theorem okd_deeds {d : Dt} (h : OkD (.sl 11 plDeed) d) : ∃ ws : List DeedV, shP (.sl 11 plDeed) d = [.sl 11 2 (ws.map eDeed)] ∧ ∀ w ∈ ws, DeedIn w := by
  obtain ⟨xs, rfl, b1⟩ := okd_sl h
  obtain ⟨ws, e2, b2⟩ := map_shP (fun d h => okd_deed h) xs b1
  exact ⟨ws, by show [Sh.sl 11 2 (xs.map fun x => shP plDeed x)] = _; rw [e2], b2⟩
theorem repL_len {H : Hp} {E : Env} : ∀ {cs : List Sh} {vs : List Value} {k g : Nat} {es : List (List Sh)}, RepL H E cs vs → .sl k g es ∈ cs → es.length ≤ maxLen
  | _, _, _, _, _, .nil, h => by cases h
  | _, _, k, g, es, .cons (x := x) hx ht, h => by
    rcases List.mem_cons.1 h with e | h
    · subst e
      cases hx with
      | sl a b c d _ _ _ => omega
    · exact repL_len ht h
theorem ok_slen {f : FuncId} {args : List Sh} {r : Sh} (k g : Nat) (es : List (List Sh)) (hm : Sh.sl k g es ∈ args) (h : es.length ≤ maxLen → Ok f args r) : Ok f args r :=
  fun w H vs hs hv => h (repL_len hv hm) w H vs hs hv
end Go.Proofs.Ytkoibcblmgmdmaa
